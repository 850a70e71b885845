/-
  No cell of these rows narrows 'for every input' (looked for: loops, veiled, ifaces, maps, wideKeys, modest, calm, conditions, laid).
  DERIVED. THE GIVEN ROWS OF THIS SEAT. 9 by the template 'for every input the law returns true; each argument reads behind the call as it read before'; 0 by the template 'total and deterministic' (their statements: YtfeidhmkmbgnoaaTotals.lean).
  GIVEN WITH THE SEED: the statements are not yours to turn. If you find one false, say at which input.
  Laid BY PROGRAM, IN A SANDBOX (cutbox-rows.mjs): the forced cells as the released guide's own fill.sh prints them over the translation c09737bd3dee0190… (all of the seat's roots in one cut). By AI agents, Wed Nov 11 2026. No macro, syntax, notation, axiom, sorry.
-/
import Derived.Test.YtfeidhmkmbgnoaaChecked
import GoSem.Claim
import GoSem.ClaimJoined
import GoSem.ClaimMapViews
import Derived.JoinedTies
import Derived.KernelRfl
namespace Go.Proofs.Ytfeidhmkmbgnoaa
/- THE CELL 'sum', in the pinned program and in every row, IS THE sha256 OF THE DUMP (.gsa) THAT YtfeidhmkmbgnoaaProg.lean LOADS. Nothing in Lean hashes anything: it is a label: what it is worth is what the hold of that sum in a sandbox is worth. -/
noncomputable def Try.pinned : Pinned := { name := "ytfeidhmkmbgnoaa", sum := "c09737bd3dee01903b6ccb75574b129e5f5fcf8b2c0070a3f31467ce2ab4b9cf", checked := Try.checked }
namespace Rows
def none {H : Type} : Left H := { results := [], args := [] }

/-- 'stanzalaw14.FirstBreaks': WHATEVER THE INPUT: true; the input reads as it did. -/
def firstBreaksSpec : ChangeSpec := { name := "firstBreaks", fn := fun _ => fun
  | [d1, d2] => { results := [.lit (.bool true)], args := [d1, d2] }
  | _ => none }
def firstBreaksRow : OpenClaim := { program := "ytfeidhmkmbgnoaa", sum := "c09737bd3dee01903b6ccb75574b129e5f5fcf8b2c0070a3f31467ce2ab4b9cf", func := "stanza/stanzalaw14.FirstBreaks", spec := "firstBreaks", apart := false }
def FirstBreaksSaid : Prop := firstBreaksRow.holds Try.pinned (OpenSpec.ofChange firstBreaksSpec)

/-- ITS FALSE NEIGHBOUR: 'it returns false'. Refute it at one input. -/
def firstBreaksWrong : ChangeSpec := { name := "firstBreaks", fn := fun _ => fun
  | [d1, d2] => { results := [.lit (.bool false)], args := [d1, d2] }
  | _ => none }
def FirstBreaksWrongFalsely : Prop := firstBreaksRow.holds Try.pinned (OpenSpec.ofChange firstBreaksWrong)

/-- 'stanzalaw14.FirstLines': WHATEVER THE INPUT: true; the input reads as it did. -/
def firstLinesSpec : ChangeSpec := { name := "firstLines", fn := fun _ => fun
  | [d1, d2] => { results := [.lit (.bool true)], args := [d1, d2] }
  | _ => none }
def firstLinesRow : OpenClaim := { program := "ytfeidhmkmbgnoaa", sum := "c09737bd3dee01903b6ccb75574b129e5f5fcf8b2c0070a3f31467ce2ab4b9cf", func := "stanza/stanzalaw14.FirstLines", spec := "firstLines", apart := false }
def FirstLinesSaid : Prop := firstLinesRow.holds Try.pinned (OpenSpec.ofChange firstLinesSpec)

/-- ITS FALSE NEIGHBOUR: 'it returns false'. Refute it at one input. -/
def firstLinesWrong : ChangeSpec := { name := "firstLines", fn := fun _ => fun
  | [d1, d2] => { results := [.lit (.bool false)], args := [d1, d2] }
  | _ => none }
def FirstLinesWrongFalsely : Prop := firstLinesRow.holds Try.pinned (OpenSpec.ofChange firstLinesWrong)

/-- 'stanzalaw14.FirstWider': WHATEVER THE INPUT: true; the input reads as it did. -/
def firstWiderSpec : ChangeSpec := { name := "firstWider", fn := fun _ => fun
  | [d1, d2] => { results := [.lit (.bool true)], args := [d1, d2] }
  | _ => none }
def firstWiderRow : OpenClaim := { program := "ytfeidhmkmbgnoaa", sum := "c09737bd3dee01903b6ccb75574b129e5f5fcf8b2c0070a3f31467ce2ab4b9cf", func := "stanza/stanzalaw14.FirstWider", spec := "firstWider", apart := false }
def FirstWiderSaid : Prop := firstWiderRow.holds Try.pinned (OpenSpec.ofChange firstWiderSpec)

/-- ITS FALSE NEIGHBOUR: 'it returns false'. Refute it at one input. -/
def firstWiderWrong : ChangeSpec := { name := "firstWider", fn := fun _ => fun
  | [d1, d2] => { results := [.lit (.bool false)], args := [d1, d2] }
  | _ => none }
def FirstWiderWrongFalsely : Prop := firstWiderRow.holds Try.pinned (OpenSpec.ofChange firstWiderWrong)

/-- 'stanzalaw14.FirstRest': WHATEVER THE INPUT: true; the input reads as it did. -/
def firstRestSpec : ChangeSpec := { name := "firstRest", fn := fun _ => fun
  | [d1, d2] => { results := [.lit (.bool true)], args := [d1, d2] }
  | _ => none }
def firstRestRow : OpenClaim := { program := "ytfeidhmkmbgnoaa", sum := "c09737bd3dee01903b6ccb75574b129e5f5fcf8b2c0070a3f31467ce2ab4b9cf", func := "stanza/stanzalaw14.FirstRest", spec := "firstRest", recurses := true, apart := false }
def FirstRestSaid : Prop := firstRestRow.holds Try.pinned (OpenSpec.ofChange firstRestSpec)

/-- ITS FALSE NEIGHBOUR: 'it returns false'. Refute it at one input. -/
def firstRestWrong : ChangeSpec := { name := "firstRest", fn := fun _ => fun
  | [d1, d2] => { results := [.lit (.bool false)], args := [d1, d2] }
  | _ => none }
def FirstRestWrongFalsely : Prop := firstRestRow.holds Try.pinned (OpenSpec.ofChange firstRestWrong)

/-- 'stanzalaw14.FirstHyphens': WHATEVER THE INPUT: true; the input reads as it did. -/
def firstHyphensSpec : ChangeSpec := { name := "firstHyphens", fn := fun _ => fun
  | [d1, d2] => { results := [.lit (.bool true)], args := [d1, d2] }
  | _ => none }
def firstHyphensRow : OpenClaim := { program := "ytfeidhmkmbgnoaa", sum := "c09737bd3dee01903b6ccb75574b129e5f5fcf8b2c0070a3f31467ce2ab4b9cf", func := "stanza/stanzalaw14.FirstHyphens", spec := "firstHyphens", apart := false }
def FirstHyphensSaid : Prop := firstHyphensRow.holds Try.pinned (OpenSpec.ofChange firstHyphensSpec)

/-- ITS FALSE NEIGHBOUR: 'it returns false'. Refute it at one input. -/
def firstHyphensWrong : ChangeSpec := { name := "firstHyphens", fn := fun _ => fun
  | [d1, d2] => { results := [.lit (.bool false)], args := [d1, d2] }
  | _ => none }
def FirstHyphensWrongFalsely : Prop := firstHyphensRow.holds Try.pinned (OpenSpec.ofChange firstHyphensWrong)

/-- 'stanzalaw22.DrawRows': WHATEVER THE INPUT: true; the input reads as it did. -/
def drawRowsSpec : ChangeSpec := { name := "drawRows", fn := fun _ => fun
  | [d1, d2, d3] => { results := [.lit (.bool true)], args := [d1, d2, d3] }
  | _ => none }
def drawRowsRow : OpenClaim := { program := "ytfeidhmkmbgnoaa", sum := "c09737bd3dee01903b6ccb75574b129e5f5fcf8b2c0070a3f31467ce2ab4b9cf", func := "stanza/stanzalaw22.DrawRows", spec := "drawRows", inPlace := ["math.Float64bits"], apart := false }
def DrawRowsSaid : Prop := drawRowsRow.holds Try.pinned (OpenSpec.ofChange drawRowsSpec)

/-- ITS FALSE NEIGHBOUR: 'it returns false'. Refute it at one input. -/
def drawRowsWrong : ChangeSpec := { name := "drawRows", fn := fun _ => fun
  | [d1, d2, d3] => { results := [.lit (.bool false)], args := [d1, d2, d3] }
  | _ => none }
def DrawRowsWrongFalsely : Prop := drawRowsRow.holds Try.pinned (OpenSpec.ofChange drawRowsWrong)

/-- 'stanzalaw22.DrawCells': WHATEVER THE INPUT: true; the input reads as it did. -/
def drawCellsSpec : ChangeSpec := { name := "drawCells", fn := fun _ => fun
  | [d1, d2] => { results := [.lit (.bool true)], args := [d1, d2] }
  | _ => none }
def drawCellsRow : OpenClaim := { program := "ytfeidhmkmbgnoaa", sum := "c09737bd3dee01903b6ccb75574b129e5f5fcf8b2c0070a3f31467ce2ab4b9cf", func := "stanza/stanzalaw22.DrawCells", spec := "drawCells", inPlace := ["math.Float64bits"], apart := false }
def DrawCellsSaid : Prop := drawCellsRow.holds Try.pinned (OpenSpec.ofChange drawCellsSpec)

/-- ITS FALSE NEIGHBOUR: 'it returns false'. Refute it at one input. -/
def drawCellsWrong : ChangeSpec := { name := "drawCells", fn := fun _ => fun
  | [d1, d2] => { results := [.lit (.bool false)], args := [d1, d2] }
  | _ => none }
def DrawCellsWrongFalsely : Prop := drawCellsRow.holds Try.pinned (OpenSpec.ofChange drawCellsWrong)

/-- 'stanzalaw22.DrawWords': WHATEVER THE INPUT: true; the input reads as it did. -/
def drawWordsSpec : ChangeSpec := { name := "drawWords", fn := fun _ => fun
  | [d1, d2, d3] => { results := [.lit (.bool true)], args := [d1, d2, d3] }
  | _ => none }
def drawWordsRow : OpenClaim := { program := "ytfeidhmkmbgnoaa", sum := "c09737bd3dee01903b6ccb75574b129e5f5fcf8b2c0070a3f31467ce2ab4b9cf", func := "stanza/stanzalaw22.DrawWords", spec := "drawWords", inPlace := ["math.Float64bits"], apart := false }
def DrawWordsSaid : Prop := drawWordsRow.holds Try.pinned (OpenSpec.ofChange drawWordsSpec)

/-- ITS FALSE NEIGHBOUR: 'it returns false'. Refute it at one input. -/
def drawWordsWrong : ChangeSpec := { name := "drawWords", fn := fun _ => fun
  | [d1, d2, d3] => { results := [.lit (.bool false)], args := [d1, d2, d3] }
  | _ => none }
def DrawWordsWrongFalsely : Prop := drawWordsRow.holds Try.pinned (OpenSpec.ofChange drawWordsWrong)

/-- 'stanzalaw22.DrawEnds': WHATEVER THE INPUT: true; the input reads as it did. -/
def drawEndsSpec : ChangeSpec := { name := "drawEnds", fn := fun _ => fun
  | [d1, d2] => { results := [.lit (.bool true)], args := [d1, d2] }
  | _ => none }
def drawEndsRow : OpenClaim := { program := "ytfeidhmkmbgnoaa", sum := "c09737bd3dee01903b6ccb75574b129e5f5fcf8b2c0070a3f31467ce2ab4b9cf", func := "stanza/stanzalaw22.DrawEnds", spec := "drawEnds", inPlace := ["math.Float64bits"], apart := false }
def DrawEndsSaid : Prop := drawEndsRow.holds Try.pinned (OpenSpec.ofChange drawEndsSpec)

/-- ITS FALSE NEIGHBOUR: 'it returns false'. Refute it at one input. -/
def drawEndsWrong : ChangeSpec := { name := "drawEnds", fn := fun _ => fun
  | [d1, d2] => { results := [.lit (.bool false)], args := [d1, d2] }
  | _ => none }
def DrawEndsWrongFalsely : Prop := drawEndsRow.holds Try.pinned (OpenSpec.ofChange drawEndsWrong)

/- THE SECOND FORM. 'bulk': how many values and letters a reading holds, each counted each time it is reached (what is shared counts as often as it is met; a slice's spare places count too). A statement '..UptoSaid' is the law's where the arguments, and the package variables that the reading takes, are together of bulk at most 1048576: NARROWER than '..Said'. Prove '..Said' where nothing that the law and all that it calls make is longer than what came in: it says more and counts as full. Else prove '..UptoSaid'. A law counts once. -/
mutual
def uptoBulk {H : Type} : DataW H → Nat
  | .lit (.string bytes) => bytes.length + 1
  | .lit _ => 1
  | .nil => 1
  | .ptr d => uptoBulk d + 1
  | .slice elems spare => uptoBulkAll elems + uptoBulkAll spare + 1
  | .agg parts => uptoBulkAll parts + 1
  | .iface _ d => uptoBulk d + 1
  | .map entries => uptoBulkEntries entries + 1
  | .held _ => 1
def uptoBulkAll {H : Type} : List (DataW H) → Nat
  | [] => 0
  | d :: r => uptoBulk d + uptoBulkAll r
def uptoBulkEntries {H : Type} : List (Lit × DataW H) → Nat
  | [] => 0
  | x :: r => uptoBulkEntry x + uptoBulkEntries r
def uptoBulkEntry {H : Type} : Lit × DataW H → Nat
  | (.string bytes, d) => bytes.length + uptoBulk d + 1
  | (_, d) => uptoBulk d + 1
 end
def uptoSmall : (H : Type) → List (DataW H) → Bool := fun _ ds => decide (uptoBulkAll ds ≤ 1048576)
def OpenSpec.upto (s : _root_.Go.ChangeSpec) : _root_.Go.OpenSpec := { _root_.Go.OpenSpec.ofChange s with cond := some uptoSmall }

/-- 'stanzalaw14.FirstBreaks', WHERE WHAT IT READS IS OF BULK AT MOST 1048576: true; the input reads as it did. -/
def firstBreaksUptoRow : OpenClaim := { program := "ytfeidhmkmbgnoaa", sum := "c09737bd3dee01903b6ccb75574b129e5f5fcf8b2c0070a3f31467ce2ab4b9cf", func := "stanza/stanzalaw14.FirstBreaks", spec := "firstBreaks", apart := false, narrowed := true }
def FirstBreaksUptoSaid : Prop := firstBreaksUptoRow.holds Try.pinned (OpenSpec.upto firstBreaksSpec)

/-- 'stanzalaw14.FirstLines', WHERE WHAT IT READS IS OF BULK AT MOST 1048576: true; the input reads as it did. -/
def firstLinesUptoRow : OpenClaim := { program := "ytfeidhmkmbgnoaa", sum := "c09737bd3dee01903b6ccb75574b129e5f5fcf8b2c0070a3f31467ce2ab4b9cf", func := "stanza/stanzalaw14.FirstLines", spec := "firstLines", apart := false, narrowed := true }
def FirstLinesUptoSaid : Prop := firstLinesUptoRow.holds Try.pinned (OpenSpec.upto firstLinesSpec)

/-- 'stanzalaw14.FirstWider', WHERE WHAT IT READS IS OF BULK AT MOST 1048576: true; the input reads as it did. -/
def firstWiderUptoRow : OpenClaim := { program := "ytfeidhmkmbgnoaa", sum := "c09737bd3dee01903b6ccb75574b129e5f5fcf8b2c0070a3f31467ce2ab4b9cf", func := "stanza/stanzalaw14.FirstWider", spec := "firstWider", apart := false, narrowed := true }
def FirstWiderUptoSaid : Prop := firstWiderUptoRow.holds Try.pinned (OpenSpec.upto firstWiderSpec)

/-- 'stanzalaw14.FirstRest', WHERE WHAT IT READS IS OF BULK AT MOST 1048576: true; the input reads as it did. -/
def firstRestUptoRow : OpenClaim := { program := "ytfeidhmkmbgnoaa", sum := "c09737bd3dee01903b6ccb75574b129e5f5fcf8b2c0070a3f31467ce2ab4b9cf", func := "stanza/stanzalaw14.FirstRest", spec := "firstRest", recurses := true, apart := false, narrowed := true }
def FirstRestUptoSaid : Prop := firstRestUptoRow.holds Try.pinned (OpenSpec.upto firstRestSpec)

/-- 'stanzalaw14.FirstHyphens', WHERE WHAT IT READS IS OF BULK AT MOST 1048576: true; the input reads as it did. -/
def firstHyphensUptoRow : OpenClaim := { program := "ytfeidhmkmbgnoaa", sum := "c09737bd3dee01903b6ccb75574b129e5f5fcf8b2c0070a3f31467ce2ab4b9cf", func := "stanza/stanzalaw14.FirstHyphens", spec := "firstHyphens", apart := false, narrowed := true }
def FirstHyphensUptoSaid : Prop := firstHyphensUptoRow.holds Try.pinned (OpenSpec.upto firstHyphensSpec)

/-- 'stanzalaw22.DrawRows', WHERE WHAT IT READS IS OF BULK AT MOST 1048576: true; the input reads as it did. -/
def drawRowsUptoRow : OpenClaim := { program := "ytfeidhmkmbgnoaa", sum := "c09737bd3dee01903b6ccb75574b129e5f5fcf8b2c0070a3f31467ce2ab4b9cf", func := "stanza/stanzalaw22.DrawRows", spec := "drawRows", inPlace := ["math.Float64bits"], apart := false, narrowed := true }
def DrawRowsUptoSaid : Prop := drawRowsUptoRow.holds Try.pinned (OpenSpec.upto drawRowsSpec)

/-- 'stanzalaw22.DrawCells', WHERE WHAT IT READS IS OF BULK AT MOST 1048576: true; the input reads as it did. -/
def drawCellsUptoRow : OpenClaim := { program := "ytfeidhmkmbgnoaa", sum := "c09737bd3dee01903b6ccb75574b129e5f5fcf8b2c0070a3f31467ce2ab4b9cf", func := "stanza/stanzalaw22.DrawCells", spec := "drawCells", inPlace := ["math.Float64bits"], apart := false, narrowed := true }
def DrawCellsUptoSaid : Prop := drawCellsUptoRow.holds Try.pinned (OpenSpec.upto drawCellsSpec)

/-- 'stanzalaw22.DrawWords', WHERE WHAT IT READS IS OF BULK AT MOST 1048576: true; the input reads as it did. -/
def drawWordsUptoRow : OpenClaim := { program := "ytfeidhmkmbgnoaa", sum := "c09737bd3dee01903b6ccb75574b129e5f5fcf8b2c0070a3f31467ce2ab4b9cf", func := "stanza/stanzalaw22.DrawWords", spec := "drawWords", inPlace := ["math.Float64bits"], apart := false, narrowed := true }
def DrawWordsUptoSaid : Prop := drawWordsUptoRow.holds Try.pinned (OpenSpec.upto drawWordsSpec)

/-- 'stanzalaw22.DrawEnds', WHERE WHAT IT READS IS OF BULK AT MOST 1048576: true; the input reads as it did. -/
def drawEndsUptoRow : OpenClaim := { program := "ytfeidhmkmbgnoaa", sum := "c09737bd3dee01903b6ccb75574b129e5f5fcf8b2c0070a3f31467ce2ab4b9cf", func := "stanza/stanzalaw22.DrawEnds", spec := "drawEnds", inPlace := ["math.Float64bits"], apart := false, narrowed := true }
def DrawEndsUptoSaid : Prop := drawEndsUptoRow.holds Try.pinned (OpenSpec.upto drawEndsSpec)

end Rows
end Go.Proofs.Ytfeidhmkmbgnoaa
