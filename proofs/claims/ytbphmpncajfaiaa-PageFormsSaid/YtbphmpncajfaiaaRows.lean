/-
  No cell of these rows narrows 'for every input' (looked for: loops, veiled, ifaces, maps, wideKeys, modest, calm, conditions, laid).
  DERIVED. THE GIVEN ROWS OF THIS SEAT. 12 by the template 'for every input the law returns true; each argument reads behind the call as it read before'; 0 by the template 'total and deterministic' (their statements: YtbphmpncajfaiaaTotals.lean).
  GIVEN WITH THE SEED: the statements are not yours to turn. If you find one false, say at which input.
  Laid BY PROGRAM, IN A SANDBOX (cutbox-rows.mjs): the forced cells as the released guide's own fill.sh prints them over the translation a5dfbdbc09b9c92f… (all of the seat's roots in one cut). By AI agents, Wed Nov 11 2026. No macro, syntax, notation, axiom, sorry.
-/
import Derived.Test.YtbphmpncajfaiaaChecked
import GoSem.Claim
import GoSem.ClaimJoined
import GoSem.ClaimMapViews
import Derived.JoinedTies
import Derived.KernelRfl
namespace Go.Proofs.Ytbphmpncajfaiaa
/- THE CELL 'sum', in the pinned program and in every row, IS THE sha256 OF THE DUMP (.gsa) THAT YtbphmpncajfaiaaProg.lean LOADS. Nothing in Lean hashes anything: it is a label: what it is worth is what the hold of that sum in a sandbox is worth. -/
noncomputable def Try.pinned : Pinned := { name := "ytbphmpncajfaiaa", sum := "a5dfbdbc09b9c92fcd8904adb1f812c236eb7e1586986e8fef0af943122c3924", checked := Try.checked }
namespace Rows
def none {H : Type} : Left H := { results := [], args := [] }

/-- 'palimpsestlaw02.WireSums': WHATEVER THE INPUT: true; the input reads as it did. -/
def wireSumsSpec : ChangeSpec := { name := "wireSums", fn := fun _ => fun
  | [d] => { results := [.lit (.bool true)], args := [d] }
  | _ => none }
def wireSumsRow : OpenClaim := { program := "ytbphmpncajfaiaa", sum := "a5dfbdbc09b9c92fcd8904adb1f812c236eb7e1586986e8fef0af943122c3924", func := "palimpsest/palimpsestlaw02.WireSums", spec := "wireSums", apart := false }
def WireSumsSaid : Prop := wireSumsRow.holds Try.pinned (OpenSpec.ofChange wireSumsSpec)

/-- ITS FALSE NEIGHBOUR: 'it returns false'. Refute it at one input. -/
def wireSumsWrong : ChangeSpec := { name := "wireSums", fn := fun _ => fun
  | [d] => { results := [.lit (.bool false)], args := [d] }
  | _ => none }
def WireSumsWrongFalsely : Prop := wireSumsRow.holds Try.pinned (OpenSpec.ofChange wireSumsWrong)

/-- 'palimpsestlaw02.WirePuts': WHATEVER THE INPUT: true; the input reads as it did. -/
def wirePutsSpec : ChangeSpec := { name := "wirePuts", fn := fun _ => fun
  | [d1, d2, d3] => { results := [.lit (.bool true)], args := [d1, d2, d3] }
  | _ => none }
def wirePutsRow : OpenClaim := { program := "ytbphmpncajfaiaa", sum := "a5dfbdbc09b9c92fcd8904adb1f812c236eb7e1586986e8fef0af943122c3924", func := "palimpsest/palimpsestlaw02.WirePuts", spec := "wirePuts", apart := false }
def WirePutsSaid : Prop := wirePutsRow.holds Try.pinned (OpenSpec.ofChange wirePutsSpec)

/-- ITS FALSE NEIGHBOUR: 'it returns false'. Refute it at one input. -/
def wirePutsWrong : ChangeSpec := { name := "wirePuts", fn := fun _ => fun
  | [d1, d2, d3] => { results := [.lit (.bool false)], args := [d1, d2, d3] }
  | _ => none }
def WirePutsWrongFalsely : Prop := wirePutsRow.holds Try.pinned (OpenSpec.ofChange wirePutsWrong)

/-- 'palimpsestlaw02.WireBoxes': WHATEVER THE INPUT: true; the input reads as it did. -/
def wireBoxesSpec : ChangeSpec := { name := "wireBoxes", fn := fun _ => fun
  | [d1, d2, d3] => { results := [.lit (.bool true)], args := [d1, d2, d3] }
  | _ => none }
def wireBoxesRow : OpenClaim := { program := "ytbphmpncajfaiaa", sum := "a5dfbdbc09b9c92fcd8904adb1f812c236eb7e1586986e8fef0af943122c3924", func := "palimpsest/palimpsestlaw02.WireBoxes", spec := "wireBoxes", apart := false }
def WireBoxesSaid : Prop := wireBoxesRow.holds Try.pinned (OpenSpec.ofChange wireBoxesSpec)

/-- ITS FALSE NEIGHBOUR: 'it returns false'. Refute it at one input. -/
def wireBoxesWrong : ChangeSpec := { name := "wireBoxes", fn := fun _ => fun
  | [d1, d2, d3] => { results := [.lit (.bool false)], args := [d1, d2, d3] }
  | _ => none }
def WireBoxesWrongFalsely : Prop := wireBoxesRow.holds Try.pinned (OpenSpec.ofChange wireBoxesWrong)

/-- 'palimpsestlaw02.WireTurns': WHATEVER THE INPUT: true; the input reads as it did. -/
def wireTurnsSpec : ChangeSpec := { name := "wireTurns", fn := fun _ => fun
  | [d] => { results := [.lit (.bool true)], args := [d] }
  | _ => none }
def wireTurnsRow : OpenClaim := { program := "ytbphmpncajfaiaa", sum := "a5dfbdbc09b9c92fcd8904adb1f812c236eb7e1586986e8fef0af943122c3924", func := "palimpsest/palimpsestlaw02.WireTurns", spec := "wireTurns", apart := false }
def WireTurnsSaid : Prop := wireTurnsRow.holds Try.pinned (OpenSpec.ofChange wireTurnsSpec)

/-- ITS FALSE NEIGHBOUR: 'it returns false'. Refute it at one input. -/
def wireTurnsWrong : ChangeSpec := { name := "wireTurns", fn := fun _ => fun
  | [d] => { results := [.lit (.bool false)], args := [d] }
  | _ => none }
def WireTurnsWrongFalsely : Prop := wireTurnsRow.holds Try.pinned (OpenSpec.ofChange wireTurnsWrong)

/-- 'palimpsestlaw02.WireOne': WHATEVER THE INPUT: true; the input reads as it did. -/
def wireOneSpec : ChangeSpec := { name := "wireOne", fn := fun _ => fun
  | [d1, d2] => { results := [.lit (.bool true)], args := [d1, d2] }
  | _ => none }
def wireOneRow : OpenClaim := { program := "ytbphmpncajfaiaa", sum := "a5dfbdbc09b9c92fcd8904adb1f812c236eb7e1586986e8fef0af943122c3924", func := "palimpsest/palimpsestlaw02.WireOne", spec := "wireOne", apart := false }
def WireOneSaid : Prop := wireOneRow.holds Try.pinned (OpenSpec.ofChange wireOneSpec)

/-- ITS FALSE NEIGHBOUR: 'it returns false'. Refute it at one input. -/
def wireOneWrong : ChangeSpec := { name := "wireOne", fn := fun _ => fun
  | [d1, d2] => { results := [.lit (.bool false)], args := [d1, d2] }
  | _ => none }
def WireOneWrongFalsely : Prop := wireOneRow.holds Try.pinned (OpenSpec.ofChange wireOneWrong)

/-- 'palimpsestlaw02.WireBack': WHATEVER THE INPUT: true; the input reads as it did. -/
def wireBackSpec : ChangeSpec := { name := "wireBack", fn := fun _ => fun
  | [d1, d2, d3] => { results := [.lit (.bool true)], args := [d1, d2, d3] }
  | _ => none }
def wireBackRow : OpenClaim := { program := "ytbphmpncajfaiaa", sum := "a5dfbdbc09b9c92fcd8904adb1f812c236eb7e1586986e8fef0af943122c3924", func := "palimpsest/palimpsestlaw02.WireBack", spec := "wireBack", apart := false }
def WireBackSaid : Prop := wireBackRow.holds Try.pinned (OpenSpec.ofChange wireBackSpec)

/-- ITS FALSE NEIGHBOUR: 'it returns false'. Refute it at one input. -/
def wireBackWrong : ChangeSpec := { name := "wireBack", fn := fun _ => fun
  | [d1, d2, d3] => { results := [.lit (.bool false)], args := [d1, d2, d3] }
  | _ => none }
def WireBackWrongFalsely : Prop := wireBackRow.holds Try.pinned (OpenSpec.ofChange wireBackWrong)

/-- 'palimpsestlaw05.PageForms': WHATEVER THE INPUT: true; the input reads as it did. -/
def pageFormsSpec : ChangeSpec := { name := "pageForms", fn := fun _ => fun
  | [d1, d2, d3] => { results := [.lit (.bool true)], args := [d1, d2, d3] }
  | _ => none }
def pageFormsRow : OpenClaim := { program := "ytbphmpncajfaiaa", sum := "a5dfbdbc09b9c92fcd8904adb1f812c236eb7e1586986e8fef0af943122c3924", func := "palimpsest/palimpsestlaw05.PageForms", spec := "pageForms", inPlace := ["internal/bytealg.Count", "internal/bytealg.IndexByte", "internal/bytealg.Index"], named := ["internal/bytealg.MaxLen"], apart := false }
def PageFormsSaid : Prop := pageFormsRow.holds Try.pinned (OpenSpec.ofChange pageFormsSpec)

/-- ITS FALSE NEIGHBOUR: 'it returns false'. Refute it at one input. -/
def pageFormsWrong : ChangeSpec := { name := "pageForms", fn := fun _ => fun
  | [d1, d2, d3] => { results := [.lit (.bool false)], args := [d1, d2, d3] }
  | _ => none }
def PageFormsWrongFalsely : Prop := pageFormsRow.holds Try.pinned (OpenSpec.ofChange pageFormsWrong)

/-- 'palimpsestlaw05.PageBack': WHATEVER THE INPUT: true; the input reads as it did. -/
def pageBackSpec : ChangeSpec := { name := "pageBack", fn := fun _ => fun
  | [d1, d2, d3] => { results := [.lit (.bool true)], args := [d1, d2, d3] }
  | _ => none }
def pageBackRow : OpenClaim := { program := "ytbphmpncajfaiaa", sum := "a5dfbdbc09b9c92fcd8904adb1f812c236eb7e1586986e8fef0af943122c3924", func := "palimpsest/palimpsestlaw05.PageBack", spec := "pageBack", inPlace := ["internal/bytealg.Count", "internal/bytealg.IndexByte", "internal/bytealg.Index"], named := ["internal/bytealg.MaxLen"], apart := false }
def PageBackSaid : Prop := pageBackRow.holds Try.pinned (OpenSpec.ofChange pageBackSpec)

/-- ITS FALSE NEIGHBOUR: 'it returns false'. Refute it at one input. -/
def pageBackWrong : ChangeSpec := { name := "pageBack", fn := fun _ => fun
  | [d1, d2, d3] => { results := [.lit (.bool false)], args := [d1, d2, d3] }
  | _ => none }
def PageBackWrongFalsely : Prop := pageBackRow.holds Try.pinned (OpenSpec.ofChange pageBackWrong)

/-- 'palimpsestlaw05.PageTurns': WHATEVER THE INPUT: true; the input reads as it did. -/
def pageTurnsSpec : ChangeSpec := { name := "pageTurns", fn := fun _ => fun
  | [d] => { results := [.lit (.bool true)], args := [d] }
  | _ => none }
def pageTurnsRow : OpenClaim := { program := "ytbphmpncajfaiaa", sum := "a5dfbdbc09b9c92fcd8904adb1f812c236eb7e1586986e8fef0af943122c3924", func := "palimpsest/palimpsestlaw05.PageTurns", spec := "pageTurns", inPlace := ["internal/bytealg.Count", "internal/bytealg.IndexByte", "internal/bytealg.Index"], named := ["internal/bytealg.MaxLen"], apart := false }
def PageTurnsSaid : Prop := pageTurnsRow.holds Try.pinned (OpenSpec.ofChange pageTurnsSpec)

/-- ITS FALSE NEIGHBOUR: 'it returns false'. Refute it at one input. -/
def pageTurnsWrong : ChangeSpec := { name := "pageTurns", fn := fun _ => fun
  | [d] => { results := [.lit (.bool false)], args := [d] }
  | _ => none }
def PageTurnsWrongFalsely : Prop := pageTurnsRow.holds Try.pinned (OpenSpec.ofChange pageTurnsWrong)

/-- 'palimpsestlaw05.PageGets': WHATEVER THE INPUT: true; the input reads as it did. -/
def pageGetsSpec : ChangeSpec := { name := "pageGets", fn := fun _ => fun
  | [d1, d2] => { results := [.lit (.bool true)], args := [d1, d2] }
  | _ => none }
def pageGetsRow : OpenClaim := { program := "ytbphmpncajfaiaa", sum := "a5dfbdbc09b9c92fcd8904adb1f812c236eb7e1586986e8fef0af943122c3924", func := "palimpsest/palimpsestlaw05.PageGets", spec := "pageGets", inPlace := ["internal/bytealg.Count", "internal/bytealg.IndexByte", "internal/bytealg.Index"], named := ["internal/bytealg.MaxLen"], apart := false }
def PageGetsSaid : Prop := pageGetsRow.holds Try.pinned (OpenSpec.ofChange pageGetsSpec)

/-- ITS FALSE NEIGHBOUR: 'it returns false'. Refute it at one input. -/
def pageGetsWrong : ChangeSpec := { name := "pageGets", fn := fun _ => fun
  | [d1, d2] => { results := [.lit (.bool false)], args := [d1, d2] }
  | _ => none }
def PageGetsWrongFalsely : Prop := pageGetsRow.holds Try.pinned (OpenSpec.ofChange pageGetsWrong)

/-- 'palimpsestlaw05.PageSets': WHATEVER THE INPUT: true; the input reads as it did. -/
def pageSetsSpec : ChangeSpec := { name := "pageSets", fn := fun _ => fun
  | [d1, d2, d3] => { results := [.lit (.bool true)], args := [d1, d2, d3] }
  | _ => none }
def pageSetsRow : OpenClaim := { program := "ytbphmpncajfaiaa", sum := "a5dfbdbc09b9c92fcd8904adb1f812c236eb7e1586986e8fef0af943122c3924", func := "palimpsest/palimpsestlaw05.PageSets", spec := "pageSets", inPlace := ["internal/bytealg.Count", "internal/bytealg.IndexByte", "internal/bytealg.Index"], named := ["internal/bytealg.MaxLen"], apart := false }
def PageSetsSaid : Prop := pageSetsRow.holds Try.pinned (OpenSpec.ofChange pageSetsSpec)

/-- ITS FALSE NEIGHBOUR: 'it returns false'. Refute it at one input. -/
def pageSetsWrong : ChangeSpec := { name := "pageSets", fn := fun _ => fun
  | [d1, d2, d3] => { results := [.lit (.bool false)], args := [d1, d2, d3] }
  | _ => none }
def PageSetsWrongFalsely : Prop := pageSetsRow.holds Try.pinned (OpenSpec.ofChange pageSetsWrong)

/-- 'palimpsestlaw05.PageLast': WHATEVER THE INPUT: true; the input reads as it did. -/
def pageLastSpec : ChangeSpec := { name := "pageLast", fn := fun _ => fun
  | [d] => { results := [.lit (.bool true)], args := [d] }
  | _ => none }
def pageLastRow : OpenClaim := { program := "ytbphmpncajfaiaa", sum := "a5dfbdbc09b9c92fcd8904adb1f812c236eb7e1586986e8fef0af943122c3924", func := "palimpsest/palimpsestlaw05.PageLast", spec := "pageLast", inPlace := ["internal/bytealg.Count", "internal/bytealg.IndexByte", "internal/bytealg.Index"], named := ["internal/bytealg.MaxLen"], apart := false }
def PageLastSaid : Prop := pageLastRow.holds Try.pinned (OpenSpec.ofChange pageLastSpec)

/-- ITS FALSE NEIGHBOUR: 'it returns false'. Refute it at one input. -/
def pageLastWrong : ChangeSpec := { name := "pageLast", fn := fun _ => fun
  | [d] => { results := [.lit (.bool false)], args := [d] }
  | _ => none }
def PageLastWrongFalsely : Prop := pageLastRow.holds Try.pinned (OpenSpec.ofChange pageLastWrong)

/- THE SECOND FORM. 'bulk': how many values and letters a reading holds, each counted each time it is reached (what is shared counts as often as it is met; a slice's spare places count too). A statement '..UptoSaid' is the law's where the arguments, and the package variables that the reading takes, are together of bulk at most 1048576: NARROWER than '..Said'. Prove '..Said' where nothing that the law and all that it calls make is longer than what came in: it says more and counts as full. Else prove '..UptoSaid'. A law counts once. -/
mutual
def uptoBulk {H : Type} : DataW H → Nat
  | .lit (.string bytes) => bytes.length + 1
  | .lit _ => 1
  | .nil => 1
  | .ptr d => uptoBulk d + 1
  | .slice elems spare => uptoBulkAll elems + uptoBulkAll spare + 1
  | .agg parts => uptoBulkAll parts + 1
  | .iface _ d => uptoBulk d + 1
  | .map entries => uptoBulkEntries entries + 1
  | .held _ => 1
def uptoBulkAll {H : Type} : List (DataW H) → Nat
  | [] => 0
  | d :: r => uptoBulk d + uptoBulkAll r
def uptoBulkEntries {H : Type} : List (Lit × DataW H) → Nat
  | [] => 0
  | x :: r => uptoBulkEntry x + uptoBulkEntries r
def uptoBulkEntry {H : Type} : Lit × DataW H → Nat
  | (.string bytes, d) => bytes.length + uptoBulk d + 1
  | (_, d) => uptoBulk d + 1
 end
def uptoSmall : (H : Type) → List (DataW H) → Bool := fun _ ds => decide (uptoBulkAll ds ≤ 1048576)
def OpenSpec.upto (s : _root_.Go.ChangeSpec) : _root_.Go.OpenSpec := { _root_.Go.OpenSpec.ofChange s with cond := some uptoSmall }

/-- 'palimpsestlaw02.WireSums', WHERE WHAT IT READS IS OF BULK AT MOST 1048576: true; the input reads as it did. -/
def wireSumsUptoRow : OpenClaim := { program := "ytbphmpncajfaiaa", sum := "a5dfbdbc09b9c92fcd8904adb1f812c236eb7e1586986e8fef0af943122c3924", func := "palimpsest/palimpsestlaw02.WireSums", spec := "wireSums", apart := false, narrowed := true }
def WireSumsUptoSaid : Prop := wireSumsUptoRow.holds Try.pinned (OpenSpec.upto wireSumsSpec)

/-- 'palimpsestlaw02.WirePuts', WHERE WHAT IT READS IS OF BULK AT MOST 1048576: true; the input reads as it did. -/
def wirePutsUptoRow : OpenClaim := { program := "ytbphmpncajfaiaa", sum := "a5dfbdbc09b9c92fcd8904adb1f812c236eb7e1586986e8fef0af943122c3924", func := "palimpsest/palimpsestlaw02.WirePuts", spec := "wirePuts", apart := false, narrowed := true }
def WirePutsUptoSaid : Prop := wirePutsUptoRow.holds Try.pinned (OpenSpec.upto wirePutsSpec)

/-- 'palimpsestlaw02.WireBoxes', WHERE WHAT IT READS IS OF BULK AT MOST 1048576: true; the input reads as it did. -/
def wireBoxesUptoRow : OpenClaim := { program := "ytbphmpncajfaiaa", sum := "a5dfbdbc09b9c92fcd8904adb1f812c236eb7e1586986e8fef0af943122c3924", func := "palimpsest/palimpsestlaw02.WireBoxes", spec := "wireBoxes", apart := false, narrowed := true }
def WireBoxesUptoSaid : Prop := wireBoxesUptoRow.holds Try.pinned (OpenSpec.upto wireBoxesSpec)

/-- 'palimpsestlaw02.WireTurns', WHERE WHAT IT READS IS OF BULK AT MOST 1048576: true; the input reads as it did. -/
def wireTurnsUptoRow : OpenClaim := { program := "ytbphmpncajfaiaa", sum := "a5dfbdbc09b9c92fcd8904adb1f812c236eb7e1586986e8fef0af943122c3924", func := "palimpsest/palimpsestlaw02.WireTurns", spec := "wireTurns", apart := false, narrowed := true }
def WireTurnsUptoSaid : Prop := wireTurnsUptoRow.holds Try.pinned (OpenSpec.upto wireTurnsSpec)

/-- 'palimpsestlaw02.WireOne', WHERE WHAT IT READS IS OF BULK AT MOST 1048576: true; the input reads as it did. -/
def wireOneUptoRow : OpenClaim := { program := "ytbphmpncajfaiaa", sum := "a5dfbdbc09b9c92fcd8904adb1f812c236eb7e1586986e8fef0af943122c3924", func := "palimpsest/palimpsestlaw02.WireOne", spec := "wireOne", apart := false, narrowed := true }
def WireOneUptoSaid : Prop := wireOneUptoRow.holds Try.pinned (OpenSpec.upto wireOneSpec)

/-- 'palimpsestlaw02.WireBack', WHERE WHAT IT READS IS OF BULK AT MOST 1048576: true; the input reads as it did. -/
def wireBackUptoRow : OpenClaim := { program := "ytbphmpncajfaiaa", sum := "a5dfbdbc09b9c92fcd8904adb1f812c236eb7e1586986e8fef0af943122c3924", func := "palimpsest/palimpsestlaw02.WireBack", spec := "wireBack", apart := false, narrowed := true }
def WireBackUptoSaid : Prop := wireBackUptoRow.holds Try.pinned (OpenSpec.upto wireBackSpec)

/-- 'palimpsestlaw05.PageForms', WHERE WHAT IT READS IS OF BULK AT MOST 1048576: true; the input reads as it did. -/
def pageFormsUptoRow : OpenClaim := { program := "ytbphmpncajfaiaa", sum := "a5dfbdbc09b9c92fcd8904adb1f812c236eb7e1586986e8fef0af943122c3924", func := "palimpsest/palimpsestlaw05.PageForms", spec := "pageForms", inPlace := ["internal/bytealg.Count", "internal/bytealg.IndexByte", "internal/bytealg.Index"], named := ["internal/bytealg.MaxLen"], apart := false, narrowed := true }
def PageFormsUptoSaid : Prop := pageFormsUptoRow.holds Try.pinned (OpenSpec.upto pageFormsSpec)

/-- 'palimpsestlaw05.PageBack', WHERE WHAT IT READS IS OF BULK AT MOST 1048576: true; the input reads as it did. -/
def pageBackUptoRow : OpenClaim := { program := "ytbphmpncajfaiaa", sum := "a5dfbdbc09b9c92fcd8904adb1f812c236eb7e1586986e8fef0af943122c3924", func := "palimpsest/palimpsestlaw05.PageBack", spec := "pageBack", inPlace := ["internal/bytealg.Count", "internal/bytealg.IndexByte", "internal/bytealg.Index"], named := ["internal/bytealg.MaxLen"], apart := false, narrowed := true }
def PageBackUptoSaid : Prop := pageBackUptoRow.holds Try.pinned (OpenSpec.upto pageBackSpec)

/-- 'palimpsestlaw05.PageTurns', WHERE WHAT IT READS IS OF BULK AT MOST 1048576: true; the input reads as it did. -/
def pageTurnsUptoRow : OpenClaim := { program := "ytbphmpncajfaiaa", sum := "a5dfbdbc09b9c92fcd8904adb1f812c236eb7e1586986e8fef0af943122c3924", func := "palimpsest/palimpsestlaw05.PageTurns", spec := "pageTurns", inPlace := ["internal/bytealg.Count", "internal/bytealg.IndexByte", "internal/bytealg.Index"], named := ["internal/bytealg.MaxLen"], apart := false, narrowed := true }
def PageTurnsUptoSaid : Prop := pageTurnsUptoRow.holds Try.pinned (OpenSpec.upto pageTurnsSpec)

/-- 'palimpsestlaw05.PageGets', WHERE WHAT IT READS IS OF BULK AT MOST 1048576: true; the input reads as it did. -/
def pageGetsUptoRow : OpenClaim := { program := "ytbphmpncajfaiaa", sum := "a5dfbdbc09b9c92fcd8904adb1f812c236eb7e1586986e8fef0af943122c3924", func := "palimpsest/palimpsestlaw05.PageGets", spec := "pageGets", inPlace := ["internal/bytealg.Count", "internal/bytealg.IndexByte", "internal/bytealg.Index"], named := ["internal/bytealg.MaxLen"], apart := false, narrowed := true }
def PageGetsUptoSaid : Prop := pageGetsUptoRow.holds Try.pinned (OpenSpec.upto pageGetsSpec)

/-- 'palimpsestlaw05.PageSets', WHERE WHAT IT READS IS OF BULK AT MOST 1048576: true; the input reads as it did. -/
def pageSetsUptoRow : OpenClaim := { program := "ytbphmpncajfaiaa", sum := "a5dfbdbc09b9c92fcd8904adb1f812c236eb7e1586986e8fef0af943122c3924", func := "palimpsest/palimpsestlaw05.PageSets", spec := "pageSets", inPlace := ["internal/bytealg.Count", "internal/bytealg.IndexByte", "internal/bytealg.Index"], named := ["internal/bytealg.MaxLen"], apart := false, narrowed := true }
def PageSetsUptoSaid : Prop := pageSetsUptoRow.holds Try.pinned (OpenSpec.upto pageSetsSpec)

/-- 'palimpsestlaw05.PageLast', WHERE WHAT IT READS IS OF BULK AT MOST 1048576: true; the input reads as it did. -/
def pageLastUptoRow : OpenClaim := { program := "ytbphmpncajfaiaa", sum := "a5dfbdbc09b9c92fcd8904adb1f812c236eb7e1586986e8fef0af943122c3924", func := "palimpsest/palimpsestlaw05.PageLast", spec := "pageLast", inPlace := ["internal/bytealg.Count", "internal/bytealg.IndexByte", "internal/bytealg.Index"], named := ["internal/bytealg.MaxLen"], apart := false, narrowed := true }
def PageLastUptoSaid : Prop := pageLastUptoRow.holds Try.pinned (OpenSpec.upto pageLastSpec)

end Rows
end Go.Proofs.Ytbphmpncajfaiaa
