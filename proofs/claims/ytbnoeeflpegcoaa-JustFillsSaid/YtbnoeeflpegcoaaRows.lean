/-
  No cell of these rows narrows 'for every input' (looked for: loops, veiled, ifaces, maps, wideKeys, modest, calm, conditions, laid).
  DERIVED. THE GIVEN ROWS OF THIS SEAT. 11 by the template 'for every input the law returns true; each argument reads behind the call as it read before'; 0 by the template 'total and deterministic' (their statements: YtbnoeeflpegcoaaTotals.lean).
  GIVEN WITH THE SEED: the statements are not yours to turn. If you find one false, say at which input.
  Laid BY PROGRAM, IN A SANDBOX (cutbox-rows.mjs): the forced cells as the released guide's own fill.sh prints them over the translation 1f75a37883180f74… (all of the seat's roots in one cut). By AI agents, Wed Nov 11 2026. No macro, syntax, notation, axiom, sorry.
-/
import Derived.Test.YtbnoeeflpegcoaaChecked
import GoSem.Claim
import GoSem.ClaimJoined
import GoSem.ClaimMapViews
import Derived.JoinedTies
import Derived.KernelRfl
namespace Go.Proofs.Ytbnoeeflpegcoaa
/- THE CELL 'sum', in the pinned program and in every row, IS THE sha256 OF THE DUMP (.gsa) THAT YtbnoeeflpegcoaaProg.lean LOADS. Nothing in Lean hashes anything: it is a label: what it is worth is what the hold of that sum in a sandbox is worth. -/
noncomputable def Try.pinned : Pinned := { name := "ytbnoeeflpegcoaa", sum := "1f75a37883180f7403e482b52be89bc24d359d7834916f827e167b9ab65e011a", checked := Try.checked }
namespace Rows
def none {H : Type} : Left H := { results := [], args := [] }

/-- 'stanzalaw18.JustSpreads': WHATEVER THE INPUT: true; the input reads as it did. -/
def justSpreadsSpec : ChangeSpec := { name := "justSpreads", fn := fun _ => fun
  | [d1, d2] => { results := [.lit (.bool true)], args := [d1, d2] }
  | _ => none }
def justSpreadsRow : OpenClaim := { program := "ytbnoeeflpegcoaa", sum := "1f75a37883180f7403e482b52be89bc24d359d7834916f827e167b9ab65e011a", func := "stanza/stanzalaw18.JustSpreads", spec := "justSpreads", apart := false }
def JustSpreadsSaid : Prop := justSpreadsRow.holds Try.pinned (OpenSpec.ofChange justSpreadsSpec)

/-- ITS FALSE NEIGHBOUR: 'it returns false'. Refute it at one input. -/
def justSpreadsWrong : ChangeSpec := { name := "justSpreads", fn := fun _ => fun
  | [d1, d2] => { results := [.lit (.bool false)], args := [d1, d2] }
  | _ => none }
def JustSpreadsWrongFalsely : Prop := justSpreadsRow.holds Try.pinned (OpenSpec.ofChange justSpreadsWrong)

/-- 'stanzalaw18.JustEven': WHATEVER THE INPUT: true; the input reads as it did. -/
def justEvenSpec : ChangeSpec := { name := "justEven", fn := fun _ => fun
  | [d1, d2] => { results := [.lit (.bool true)], args := [d1, d2] }
  | _ => none }
def justEvenRow : OpenClaim := { program := "ytbnoeeflpegcoaa", sum := "1f75a37883180f7403e482b52be89bc24d359d7834916f827e167b9ab65e011a", func := "stanza/stanzalaw18.JustEven", spec := "justEven", apart := false }
def JustEvenSaid : Prop := justEvenRow.holds Try.pinned (OpenSpec.ofChange justEvenSpec)

/-- ITS FALSE NEIGHBOUR: 'it returns false'. Refute it at one input. -/
def justEvenWrong : ChangeSpec := { name := "justEven", fn := fun _ => fun
  | [d1, d2] => { results := [.lit (.bool false)], args := [d1, d2] }
  | _ => none }
def JustEvenWrongFalsely : Prop := justEvenRow.holds Try.pinned (OpenSpec.ofChange justEvenWrong)

/-- 'stanzalaw18.JustWhole': WHATEVER THE INPUT: true; the input reads as it did. -/
def justWholeSpec : ChangeSpec := { name := "justWhole", fn := fun _ => fun
  | [d1, d2, d3] => { results := [.lit (.bool true)], args := [d1, d2, d3] }
  | _ => none }
def justWholeRow : OpenClaim := { program := "ytbnoeeflpegcoaa", sum := "1f75a37883180f7403e482b52be89bc24d359d7834916f827e167b9ab65e011a", func := "stanza/stanzalaw18.JustWhole", spec := "justWhole", apart := false }
def JustWholeSaid : Prop := justWholeRow.holds Try.pinned (OpenSpec.ofChange justWholeSpec)

/-- ITS FALSE NEIGHBOUR: 'it returns false'. Refute it at one input. -/
def justWholeWrong : ChangeSpec := { name := "justWhole", fn := fun _ => fun
  | [d1, d2, d3] => { results := [.lit (.bool false)], args := [d1, d2, d3] }
  | _ => none }
def JustWholeWrongFalsely : Prop := justWholeRow.holds Try.pinned (OpenSpec.ofChange justWholeWrong)

/-- 'stanzalaw13.SpanColumns': WHATEVER THE INPUT: true; the input reads as it did. -/
def spanColumnsSpec : ChangeSpec := { name := "spanColumns", fn := fun _ => fun
  | [d1, d2, d3, d4, d5] => { results := [.lit (.bool true)], args := [d1, d2, d3, d4, d5] }
  | _ => none }
def spanColumnsRow : OpenClaim := { program := "ytbnoeeflpegcoaa", sum := "1f75a37883180f7403e482b52be89bc24d359d7834916f827e167b9ab65e011a", func := "stanza/stanzalaw13.SpanColumns", spec := "spanColumns", apart := false }
def SpanColumnsSaid : Prop := spanColumnsRow.holds Try.pinned (OpenSpec.ofChange spanColumnsSpec)

/-- ITS FALSE NEIGHBOUR: 'it returns false'. Refute it at one input. -/
def spanColumnsWrong : ChangeSpec := { name := "spanColumns", fn := fun _ => fun
  | [d1, d2, d3, d4, d5] => { results := [.lit (.bool false)], args := [d1, d2, d3, d4, d5] }
  | _ => none }
def SpanColumnsWrongFalsely : Prop := spanColumnsRow.holds Try.pinned (OpenSpec.ofChange spanColumnsWrong)

/-- 'stanzalaw13.SpanRises': WHATEVER THE INPUT: true; the input reads as it did. -/
def spanRisesSpec : ChangeSpec := { name := "spanRises", fn := fun _ => fun
  | [d1, d2, d3] => { results := [.lit (.bool true)], args := [d1, d2, d3] }
  | _ => none }
def spanRisesRow : OpenClaim := { program := "ytbnoeeflpegcoaa", sum := "1f75a37883180f7403e482b52be89bc24d359d7834916f827e167b9ab65e011a", func := "stanza/stanzalaw13.SpanRises", spec := "spanRises", apart := false }
def SpanRisesSaid : Prop := spanRisesRow.holds Try.pinned (OpenSpec.ofChange spanRisesSpec)

/-- ITS FALSE NEIGHBOUR: 'it returns false'. Refute it at one input. -/
def spanRisesWrong : ChangeSpec := { name := "spanRises", fn := fun _ => fun
  | [d1, d2, d3] => { results := [.lit (.bool false)], args := [d1, d2, d3] }
  | _ => none }
def SpanRisesWrongFalsely : Prop := spanRisesRow.holds Try.pinned (OpenSpec.ofChange spanRisesWrong)

/-- 'stanzalaw13.SpanJoins': WHATEVER THE INPUT: true; the input reads as it did. -/
def spanJoinsSpec : ChangeSpec := { name := "spanJoins", fn := fun _ => fun
  | [d1, d2, d3, d4] => { results := [.lit (.bool true)], args := [d1, d2, d3, d4] }
  | _ => none }
def spanJoinsRow : OpenClaim := { program := "ytbnoeeflpegcoaa", sum := "1f75a37883180f7403e482b52be89bc24d359d7834916f827e167b9ab65e011a", func := "stanza/stanzalaw13.SpanJoins", spec := "spanJoins", apart := false }
def SpanJoinsSaid : Prop := spanJoinsRow.holds Try.pinned (OpenSpec.ofChange spanJoinsSpec)

/-- ITS FALSE NEIGHBOUR: 'it returns false'. Refute it at one input. -/
def spanJoinsWrong : ChangeSpec := { name := "spanJoins", fn := fun _ => fun
  | [d1, d2, d3, d4] => { results := [.lit (.bool false)], args := [d1, d2, d3, d4] }
  | _ => none }
def SpanJoinsWrongFalsely : Prop := spanJoinsRow.holds Try.pinned (OpenSpec.ofChange spanJoinsWrong)

/-- 'stanzalaw13.SpanTabs': WHATEVER THE INPUT: true; the input reads as it did. -/
def spanTabsSpec : ChangeSpec := { name := "spanTabs", fn := fun _ => fun
  | [d1, d2, d3] => { results := [.lit (.bool true)], args := [d1, d2, d3] }
  | _ => none }
def spanTabsRow : OpenClaim := { program := "ytbnoeeflpegcoaa", sum := "1f75a37883180f7403e482b52be89bc24d359d7834916f827e167b9ab65e011a", func := "stanza/stanzalaw13.SpanTabs", spec := "spanTabs", apart := false }
def SpanTabsSaid : Prop := spanTabsRow.holds Try.pinned (OpenSpec.ofChange spanTabsSpec)

/-- ITS FALSE NEIGHBOUR: 'it returns false'. Refute it at one input. -/
def spanTabsWrong : ChangeSpec := { name := "spanTabs", fn := fun _ => fun
  | [d1, d2, d3] => { results := [.lit (.bool false)], args := [d1, d2, d3] }
  | _ => none }
def SpanTabsWrongFalsely : Prop := spanTabsRow.holds Try.pinned (OpenSpec.ofChange spanTabsWrong)

/-- 'stanzalaw13.SpanChecks': WHATEVER THE INPUT: true; the input reads as it did. -/
def spanChecksSpec : ChangeSpec := { name := "spanChecks", fn := fun _ => fun
  | [d] => { results := [.lit (.bool true)], args := [d] }
  | _ => none }
def spanChecksRow : OpenClaim := { program := "ytbnoeeflpegcoaa", sum := "1f75a37883180f7403e482b52be89bc24d359d7834916f827e167b9ab65e011a", func := "stanza/stanzalaw13.SpanChecks", spec := "spanChecks", apart := false }
def SpanChecksSaid : Prop := spanChecksRow.holds Try.pinned (OpenSpec.ofChange spanChecksSpec)

/-- ITS FALSE NEIGHBOUR: 'it returns false'. Refute it at one input. -/
def spanChecksWrong : ChangeSpec := { name := "spanChecks", fn := fun _ => fun
  | [d] => { results := [.lit (.bool false)], args := [d] }
  | _ => none }
def SpanChecksWrongFalsely : Prop := spanChecksRow.holds Try.pinned (OpenSpec.ofChange spanChecksWrong)

/-- 'stanzalaw13.SpanCells': WHATEVER THE INPUT: true; the input reads as it did. -/
def spanCellsSpec : ChangeSpec := { name := "spanCells", fn := fun _ => fun
  | [d1, d2, d3, d4, d5] => { results := [.lit (.bool true)], args := [d1, d2, d3, d4, d5] }
  | _ => none }
def spanCellsRow : OpenClaim := { program := "ytbnoeeflpegcoaa", sum := "1f75a37883180f7403e482b52be89bc24d359d7834916f827e167b9ab65e011a", func := "stanza/stanzalaw13.SpanCells", spec := "spanCells", apart := false }
def SpanCellsSaid : Prop := spanCellsRow.holds Try.pinned (OpenSpec.ofChange spanCellsSpec)

/-- ITS FALSE NEIGHBOUR: 'it returns false'. Refute it at one input. -/
def spanCellsWrong : ChangeSpec := { name := "spanCells", fn := fun _ => fun
  | [d1, d2, d3, d4, d5] => { results := [.lit (.bool false)], args := [d1, d2, d3, d4, d5] }
  | _ => none }
def SpanCellsWrongFalsely : Prop := spanCellsRow.holds Try.pinned (OpenSpec.ofChange spanCellsWrong)

/-- 'stanzalaw18.JustLines': WHATEVER THE INPUT: true; the input reads as it did. -/
def justLinesSpec : ChangeSpec := { name := "justLines", fn := fun _ => fun
  | [d1, d2] => { results := [.lit (.bool true)], args := [d1, d2] }
  | _ => none }
def justLinesRow : OpenClaim := { program := "ytbnoeeflpegcoaa", sum := "1f75a37883180f7403e482b52be89bc24d359d7834916f827e167b9ab65e011a", func := "stanza/stanzalaw18.JustLines", spec := "justLines", inPlace := ["math.Float64bits"], apart := false }
def JustLinesSaid : Prop := justLinesRow.holds Try.pinned (OpenSpec.ofChange justLinesSpec)

/-- ITS FALSE NEIGHBOUR: 'it returns false'. Refute it at one input. -/
def justLinesWrong : ChangeSpec := { name := "justLines", fn := fun _ => fun
  | [d1, d2] => { results := [.lit (.bool false)], args := [d1, d2] }
  | _ => none }
def JustLinesWrongFalsely : Prop := justLinesRow.holds Try.pinned (OpenSpec.ofChange justLinesWrong)

/-- 'stanzalaw18.JustFills': WHATEVER THE INPUT: true; the input reads as it did. -/
def justFillsSpec : ChangeSpec := { name := "justFills", fn := fun _ => fun
  | [d1, d2] => { results := [.lit (.bool true)], args := [d1, d2] }
  | _ => none }
def justFillsRow : OpenClaim := { program := "ytbnoeeflpegcoaa", sum := "1f75a37883180f7403e482b52be89bc24d359d7834916f827e167b9ab65e011a", func := "stanza/stanzalaw18.JustFills", spec := "justFills", inPlace := ["math.Float64bits"], apart := false }
def JustFillsSaid : Prop := justFillsRow.holds Try.pinned (OpenSpec.ofChange justFillsSpec)

/-- ITS FALSE NEIGHBOUR: 'it returns false'. Refute it at one input. -/
def justFillsWrong : ChangeSpec := { name := "justFills", fn := fun _ => fun
  | [d1, d2] => { results := [.lit (.bool false)], args := [d1, d2] }
  | _ => none }
def JustFillsWrongFalsely : Prop := justFillsRow.holds Try.pinned (OpenSpec.ofChange justFillsWrong)

/- THE SECOND FORM. 'bulk': how many values and letters a reading holds, each counted each time it is reached (what is shared counts as often as it is met; a slice's spare places count too). A statement '..UptoSaid' is the law's where the arguments, and the package variables that the reading takes, are together of bulk at most 1048576: NARROWER than '..Said'. Prove '..Said' where nothing that the law and all that it calls make is longer than what came in: it says more and counts as full. Else prove '..UptoSaid'. A law counts once. -/
mutual
def uptoBulk {H : Type} : DataW H → Nat
  | .lit (.string bytes) => bytes.length + 1
  | .lit _ => 1
  | .nil => 1
  | .ptr d => uptoBulk d + 1
  | .slice elems spare => uptoBulkAll elems + uptoBulkAll spare + 1
  | .agg parts => uptoBulkAll parts + 1
  | .iface _ d => uptoBulk d + 1
  | .map entries => uptoBulkEntries entries + 1
  | .held _ => 1
def uptoBulkAll {H : Type} : List (DataW H) → Nat
  | [] => 0
  | d :: r => uptoBulk d + uptoBulkAll r
def uptoBulkEntries {H : Type} : List (Lit × DataW H) → Nat
  | [] => 0
  | x :: r => uptoBulkEntry x + uptoBulkEntries r
def uptoBulkEntry {H : Type} : Lit × DataW H → Nat
  | (.string bytes, d) => bytes.length + uptoBulk d + 1
  | (_, d) => uptoBulk d + 1
 end
def uptoSmall : (H : Type) → List (DataW H) → Bool := fun _ ds => decide (uptoBulkAll ds ≤ 1048576)
def OpenSpec.upto (s : _root_.Go.ChangeSpec) : _root_.Go.OpenSpec := { _root_.Go.OpenSpec.ofChange s with cond := some uptoSmall }

/-- 'stanzalaw18.JustSpreads', WHERE WHAT IT READS IS OF BULK AT MOST 1048576: true; the input reads as it did. -/
def justSpreadsUptoRow : OpenClaim := { program := "ytbnoeeflpegcoaa", sum := "1f75a37883180f7403e482b52be89bc24d359d7834916f827e167b9ab65e011a", func := "stanza/stanzalaw18.JustSpreads", spec := "justSpreads", apart := false, narrowed := true }
def JustSpreadsUptoSaid : Prop := justSpreadsUptoRow.holds Try.pinned (OpenSpec.upto justSpreadsSpec)

/-- 'stanzalaw18.JustEven', WHERE WHAT IT READS IS OF BULK AT MOST 1048576: true; the input reads as it did. -/
def justEvenUptoRow : OpenClaim := { program := "ytbnoeeflpegcoaa", sum := "1f75a37883180f7403e482b52be89bc24d359d7834916f827e167b9ab65e011a", func := "stanza/stanzalaw18.JustEven", spec := "justEven", apart := false, narrowed := true }
def JustEvenUptoSaid : Prop := justEvenUptoRow.holds Try.pinned (OpenSpec.upto justEvenSpec)

/-- 'stanzalaw18.JustWhole', WHERE WHAT IT READS IS OF BULK AT MOST 1048576: true; the input reads as it did. -/
def justWholeUptoRow : OpenClaim := { program := "ytbnoeeflpegcoaa", sum := "1f75a37883180f7403e482b52be89bc24d359d7834916f827e167b9ab65e011a", func := "stanza/stanzalaw18.JustWhole", spec := "justWhole", apart := false, narrowed := true }
def JustWholeUptoSaid : Prop := justWholeUptoRow.holds Try.pinned (OpenSpec.upto justWholeSpec)

/-- 'stanzalaw13.SpanColumns', WHERE WHAT IT READS IS OF BULK AT MOST 1048576: true; the input reads as it did. -/
def spanColumnsUptoRow : OpenClaim := { program := "ytbnoeeflpegcoaa", sum := "1f75a37883180f7403e482b52be89bc24d359d7834916f827e167b9ab65e011a", func := "stanza/stanzalaw13.SpanColumns", spec := "spanColumns", apart := false, narrowed := true }
def SpanColumnsUptoSaid : Prop := spanColumnsUptoRow.holds Try.pinned (OpenSpec.upto spanColumnsSpec)

/-- 'stanzalaw13.SpanRises', WHERE WHAT IT READS IS OF BULK AT MOST 1048576: true; the input reads as it did. -/
def spanRisesUptoRow : OpenClaim := { program := "ytbnoeeflpegcoaa", sum := "1f75a37883180f7403e482b52be89bc24d359d7834916f827e167b9ab65e011a", func := "stanza/stanzalaw13.SpanRises", spec := "spanRises", apart := false, narrowed := true }
def SpanRisesUptoSaid : Prop := spanRisesUptoRow.holds Try.pinned (OpenSpec.upto spanRisesSpec)

/-- 'stanzalaw13.SpanJoins', WHERE WHAT IT READS IS OF BULK AT MOST 1048576: true; the input reads as it did. -/
def spanJoinsUptoRow : OpenClaim := { program := "ytbnoeeflpegcoaa", sum := "1f75a37883180f7403e482b52be89bc24d359d7834916f827e167b9ab65e011a", func := "stanza/stanzalaw13.SpanJoins", spec := "spanJoins", apart := false, narrowed := true }
def SpanJoinsUptoSaid : Prop := spanJoinsUptoRow.holds Try.pinned (OpenSpec.upto spanJoinsSpec)

/-- 'stanzalaw13.SpanTabs', WHERE WHAT IT READS IS OF BULK AT MOST 1048576: true; the input reads as it did. -/
def spanTabsUptoRow : OpenClaim := { program := "ytbnoeeflpegcoaa", sum := "1f75a37883180f7403e482b52be89bc24d359d7834916f827e167b9ab65e011a", func := "stanza/stanzalaw13.SpanTabs", spec := "spanTabs", apart := false, narrowed := true }
def SpanTabsUptoSaid : Prop := spanTabsUptoRow.holds Try.pinned (OpenSpec.upto spanTabsSpec)

/-- 'stanzalaw13.SpanChecks', WHERE WHAT IT READS IS OF BULK AT MOST 1048576: true; the input reads as it did. -/
def spanChecksUptoRow : OpenClaim := { program := "ytbnoeeflpegcoaa", sum := "1f75a37883180f7403e482b52be89bc24d359d7834916f827e167b9ab65e011a", func := "stanza/stanzalaw13.SpanChecks", spec := "spanChecks", apart := false, narrowed := true }
def SpanChecksUptoSaid : Prop := spanChecksUptoRow.holds Try.pinned (OpenSpec.upto spanChecksSpec)

/-- 'stanzalaw13.SpanCells', WHERE WHAT IT READS IS OF BULK AT MOST 1048576: true; the input reads as it did. -/
def spanCellsUptoRow : OpenClaim := { program := "ytbnoeeflpegcoaa", sum := "1f75a37883180f7403e482b52be89bc24d359d7834916f827e167b9ab65e011a", func := "stanza/stanzalaw13.SpanCells", spec := "spanCells", apart := false, narrowed := true }
def SpanCellsUptoSaid : Prop := spanCellsUptoRow.holds Try.pinned (OpenSpec.upto spanCellsSpec)

/-- 'stanzalaw18.JustLines', WHERE WHAT IT READS IS OF BULK AT MOST 1048576: true; the input reads as it did. -/
def justLinesUptoRow : OpenClaim := { program := "ytbnoeeflpegcoaa", sum := "1f75a37883180f7403e482b52be89bc24d359d7834916f827e167b9ab65e011a", func := "stanza/stanzalaw18.JustLines", spec := "justLines", inPlace := ["math.Float64bits"], apart := false, narrowed := true }
def JustLinesUptoSaid : Prop := justLinesUptoRow.holds Try.pinned (OpenSpec.upto justLinesSpec)

/-- 'stanzalaw18.JustFills', WHERE WHAT IT READS IS OF BULK AT MOST 1048576: true; the input reads as it did. -/
def justFillsUptoRow : OpenClaim := { program := "ytbnoeeflpegcoaa", sum := "1f75a37883180f7403e482b52be89bc24d359d7834916f827e167b9ab65e011a", func := "stanza/stanzalaw18.JustFills", spec := "justFills", inPlace := ["math.Float64bits"], apart := false, narrowed := true }
def JustFillsUptoSaid : Prop := justFillsUptoRow.holds Try.pinned (OpenSpec.upto justFillsSpec)

end Rows
end Go.Proofs.Ytbnoeeflpegcoaa
