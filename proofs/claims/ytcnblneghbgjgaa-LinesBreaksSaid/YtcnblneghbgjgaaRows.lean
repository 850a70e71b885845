/-
  No cell of these rows narrows 'for every input' (looked for: loops, veiled, ifaces, maps, wideKeys, modest, calm, conditions, laid).
  DERIVED. THE GIVEN ROWS OF THIS SEAT. 6 by the template 'for every input the law returns true; each argument reads behind the call as it read before'; 0 by the template 'total and deterministic' (their statements: YtcnblneghbgjgaaTotals.lean).
  GIVEN WITH THE SEED: the statements are not yours to turn. If you find one false, say at which input.
  Laid BY PROGRAM, IN A SANDBOX (cutbox-rows.mjs): the forced cells as the released guide's own fill.sh prints them over the translation 3c1196cd116c19f1… (all of the seat's roots in one cut). By AI agents, Wed Nov 11 2026. No macro, syntax, notation, axiom, sorry.
-/
import Derived.Test.YtcnblneghbgjgaaChecked
import GoSem.Claim
import GoSem.ClaimJoined
import GoSem.ClaimMapViews
import Derived.JoinedTies
import Derived.KernelRfl
namespace Go.Proofs.Ytcnblneghbgjgaa
/- THE CELL 'sum', in the pinned program and in every row, IS THE sha256 OF THE DUMP (.gsa) THAT YtcnblneghbgjgaaProg.lean LOADS. Nothing in Lean hashes anything: it is a label: what it is worth is what the hold of that sum in a sandbox is worth. -/
noncomputable def Try.pinned : Pinned := { name := "ytcnblneghbgjgaa", sum := "3c1196cd116c19f1fe908542c002f39ea44635b111666707cec021d1049befda", checked := Try.checked }
namespace Rows
def none {H : Type} : Left H := { results := [], args := [] }

/-- 'stanzalaw16.LinesBreaks': WHATEVER THE INPUT: true; the input reads as it did. -/
def linesBreaksSpec : ChangeSpec := { name := "linesBreaks", fn := fun _ => fun
  | [d1, d2] => { results := [.lit (.bool true)], args := [d1, d2] }
  | _ => none }
def linesBreaksRow : OpenClaim := { program := "ytcnblneghbgjgaa", sum := "3c1196cd116c19f1fe908542c002f39ea44635b111666707cec021d1049befda", func := "stanza/stanzalaw16.LinesBreaks", spec := "linesBreaks", inPlace := ["math.Float64bits", "math.Float64frombits"], apart := false }
def LinesBreaksSaid : Prop := linesBreaksRow.holds Try.pinned (OpenSpec.ofChange linesBreaksSpec)

/-- ITS FALSE NEIGHBOUR: 'it returns false'. Refute it at one input. -/
def linesBreaksWrong : ChangeSpec := { name := "linesBreaks", fn := fun _ => fun
  | [d1, d2] => { results := [.lit (.bool false)], args := [d1, d2] }
  | _ => none }
def LinesBreaksWrongFalsely : Prop := linesBreaksRow.holds Try.pinned (OpenSpec.ofChange linesBreaksWrong)

/-- 'stanzalaw16.LinesParts': WHATEVER THE INPUT: true; the input reads as it did. -/
def linesPartsSpec : ChangeSpec := { name := "linesParts", fn := fun _ => fun
  | [d1, d2] => { results := [.lit (.bool true)], args := [d1, d2] }
  | _ => none }
def linesPartsRow : OpenClaim := { program := "ytcnblneghbgjgaa", sum := "3c1196cd116c19f1fe908542c002f39ea44635b111666707cec021d1049befda", func := "stanza/stanzalaw16.LinesParts", spec := "linesParts", inPlace := ["math.Float64bits", "math.Float64frombits"], apart := false }
def LinesPartsSaid : Prop := linesPartsRow.holds Try.pinned (OpenSpec.ofChange linesPartsSpec)

/-- ITS FALSE NEIGHBOUR: 'it returns false'. Refute it at one input. -/
def linesPartsWrong : ChangeSpec := { name := "linesParts", fn := fun _ => fun
  | [d1, d2] => { results := [.lit (.bool false)], args := [d1, d2] }
  | _ => none }
def LinesPartsWrongFalsely : Prop := linesPartsRow.holds Try.pinned (OpenSpec.ofChange linesPartsWrong)

/-- 'stanzalaw16.LinesWhole': WHATEVER THE INPUT: true; the input reads as it did. -/
def linesWholeSpec : ChangeSpec := { name := "linesWhole", fn := fun _ => fun
  | [d1, d2] => { results := [.lit (.bool true)], args := [d1, d2] }
  | _ => none }
def linesWholeRow : OpenClaim := { program := "ytcnblneghbgjgaa", sum := "3c1196cd116c19f1fe908542c002f39ea44635b111666707cec021d1049befda", func := "stanza/stanzalaw16.LinesWhole", spec := "linesWhole", inPlace := ["math.Float64bits", "math.Float64frombits"], apart := false }
def LinesWholeSaid : Prop := linesWholeRow.holds Try.pinned (OpenSpec.ofChange linesWholeSpec)

/-- ITS FALSE NEIGHBOUR: 'it returns false'. Refute it at one input. -/
def linesWholeWrong : ChangeSpec := { name := "linesWhole", fn := fun _ => fun
  | [d1, d2] => { results := [.lit (.bool false)], args := [d1, d2] }
  | _ => none }
def LinesWholeWrongFalsely : Prop := linesWholeRow.holds Try.pinned (OpenSpec.ofChange linesWholeWrong)

/-- 'stanzalaw16.LinesRows': WHATEVER THE INPUT: true; the input reads as it did. -/
def linesRowsSpec : ChangeSpec := { name := "linesRows", fn := fun _ => fun
  | [d1, d2] => { results := [.lit (.bool true)], args := [d1, d2] }
  | _ => none }
def linesRowsRow : OpenClaim := { program := "ytcnblneghbgjgaa", sum := "3c1196cd116c19f1fe908542c002f39ea44635b111666707cec021d1049befda", func := "stanza/stanzalaw16.LinesRows", spec := "linesRows", inPlace := ["math.Float64bits", "math.Float64frombits"], apart := false }
def LinesRowsSaid : Prop := linesRowsRow.holds Try.pinned (OpenSpec.ofChange linesRowsSpec)

/-- ITS FALSE NEIGHBOUR: 'it returns false'. Refute it at one input. -/
def linesRowsWrong : ChangeSpec := { name := "linesRows", fn := fun _ => fun
  | [d1, d2] => { results := [.lit (.bool false)], args := [d1, d2] }
  | _ => none }
def LinesRowsWrongFalsely : Prop := linesRowsRow.holds Try.pinned (OpenSpec.ofChange linesRowsWrong)

/-- 'stanzalaw16.LinesCosts': WHATEVER THE INPUT: true; the input reads as it did. -/
def linesCostsSpec : ChangeSpec := { name := "linesCosts", fn := fun _ => fun
  | [d1, d2] => { results := [.lit (.bool true)], args := [d1, d2] }
  | _ => none }
def linesCostsRow : OpenClaim := { program := "ytcnblneghbgjgaa", sum := "3c1196cd116c19f1fe908542c002f39ea44635b111666707cec021d1049befda", func := "stanza/stanzalaw16.LinesCosts", spec := "linesCosts", inPlace := ["math.Float64bits", "math.Float64frombits"], apart := false }
def LinesCostsSaid : Prop := linesCostsRow.holds Try.pinned (OpenSpec.ofChange linesCostsSpec)

/-- ITS FALSE NEIGHBOUR: 'it returns false'. Refute it at one input. -/
def linesCostsWrong : ChangeSpec := { name := "linesCosts", fn := fun _ => fun
  | [d1, d2] => { results := [.lit (.bool false)], args := [d1, d2] }
  | _ => none }
def LinesCostsWrongFalsely : Prop := linesCostsRow.holds Try.pinned (OpenSpec.ofChange linesCostsWrong)

/-- 'stanzalaw16.LinesEach': WHATEVER THE INPUT: true; the input reads as it did. -/
def linesEachSpec : ChangeSpec := { name := "linesEach", fn := fun _ => fun
  | [d1, d2, d3] => { results := [.lit (.bool true)], args := [d1, d2, d3] }
  | _ => none }
def linesEachRow : OpenClaim := { program := "ytcnblneghbgjgaa", sum := "3c1196cd116c19f1fe908542c002f39ea44635b111666707cec021d1049befda", func := "stanza/stanzalaw16.LinesEach", spec := "linesEach", inPlace := ["math.Float64bits", "math.Float64frombits"], apart := false }
def LinesEachSaid : Prop := linesEachRow.holds Try.pinned (OpenSpec.ofChange linesEachSpec)

/-- ITS FALSE NEIGHBOUR: 'it returns false'. Refute it at one input. -/
def linesEachWrong : ChangeSpec := { name := "linesEach", fn := fun _ => fun
  | [d1, d2, d3] => { results := [.lit (.bool false)], args := [d1, d2, d3] }
  | _ => none }
def LinesEachWrongFalsely : Prop := linesEachRow.holds Try.pinned (OpenSpec.ofChange linesEachWrong)

/- THE SECOND FORM. 'bulk': how many values and letters a reading holds, each counted each time it is reached (what is shared counts as often as it is met; a slice's spare places count too). A statement '..UptoSaid' is the law's where the arguments, and the package variables that the reading takes, are together of bulk at most 1048576: NARROWER than '..Said'. Prove '..Said' where nothing that the law and all that it calls make is longer than what came in: it says more and counts as full. Else prove '..UptoSaid'. A law counts once. -/
mutual
def uptoBulk {H : Type} : DataW H → Nat
  | .lit (.string bytes) => bytes.length + 1
  | .lit _ => 1
  | .nil => 1
  | .ptr d => uptoBulk d + 1
  | .slice elems spare => uptoBulkAll elems + uptoBulkAll spare + 1
  | .agg parts => uptoBulkAll parts + 1
  | .iface _ d => uptoBulk d + 1
  | .map entries => uptoBulkEntries entries + 1
  | .held _ => 1
def uptoBulkAll {H : Type} : List (DataW H) → Nat
  | [] => 0
  | d :: r => uptoBulk d + uptoBulkAll r
def uptoBulkEntries {H : Type} : List (Lit × DataW H) → Nat
  | [] => 0
  | x :: r => uptoBulkEntry x + uptoBulkEntries r
def uptoBulkEntry {H : Type} : Lit × DataW H → Nat
  | (.string bytes, d) => bytes.length + uptoBulk d + 1
  | (_, d) => uptoBulk d + 1
 end
def uptoSmall : (H : Type) → List (DataW H) → Bool := fun _ ds => decide (uptoBulkAll ds ≤ 1048576)
def OpenSpec.upto (s : _root_.Go.ChangeSpec) : _root_.Go.OpenSpec := { _root_.Go.OpenSpec.ofChange s with cond := some uptoSmall }

/-- 'stanzalaw16.LinesBreaks', WHERE WHAT IT READS IS OF BULK AT MOST 1048576: true; the input reads as it did. -/
def linesBreaksUptoRow : OpenClaim := { program := "ytcnblneghbgjgaa", sum := "3c1196cd116c19f1fe908542c002f39ea44635b111666707cec021d1049befda", func := "stanza/stanzalaw16.LinesBreaks", spec := "linesBreaks", inPlace := ["math.Float64bits", "math.Float64frombits"], apart := false, narrowed := true }
def LinesBreaksUptoSaid : Prop := linesBreaksUptoRow.holds Try.pinned (OpenSpec.upto linesBreaksSpec)

/-- 'stanzalaw16.LinesParts', WHERE WHAT IT READS IS OF BULK AT MOST 1048576: true; the input reads as it did. -/
def linesPartsUptoRow : OpenClaim := { program := "ytcnblneghbgjgaa", sum := "3c1196cd116c19f1fe908542c002f39ea44635b111666707cec021d1049befda", func := "stanza/stanzalaw16.LinesParts", spec := "linesParts", inPlace := ["math.Float64bits", "math.Float64frombits"], apart := false, narrowed := true }
def LinesPartsUptoSaid : Prop := linesPartsUptoRow.holds Try.pinned (OpenSpec.upto linesPartsSpec)

/-- 'stanzalaw16.LinesWhole', WHERE WHAT IT READS IS OF BULK AT MOST 1048576: true; the input reads as it did. -/
def linesWholeUptoRow : OpenClaim := { program := "ytcnblneghbgjgaa", sum := "3c1196cd116c19f1fe908542c002f39ea44635b111666707cec021d1049befda", func := "stanza/stanzalaw16.LinesWhole", spec := "linesWhole", inPlace := ["math.Float64bits", "math.Float64frombits"], apart := false, narrowed := true }
def LinesWholeUptoSaid : Prop := linesWholeUptoRow.holds Try.pinned (OpenSpec.upto linesWholeSpec)

/-- 'stanzalaw16.LinesRows', WHERE WHAT IT READS IS OF BULK AT MOST 1048576: true; the input reads as it did. -/
def linesRowsUptoRow : OpenClaim := { program := "ytcnblneghbgjgaa", sum := "3c1196cd116c19f1fe908542c002f39ea44635b111666707cec021d1049befda", func := "stanza/stanzalaw16.LinesRows", spec := "linesRows", inPlace := ["math.Float64bits", "math.Float64frombits"], apart := false, narrowed := true }
def LinesRowsUptoSaid : Prop := linesRowsUptoRow.holds Try.pinned (OpenSpec.upto linesRowsSpec)

/-- 'stanzalaw16.LinesCosts', WHERE WHAT IT READS IS OF BULK AT MOST 1048576: true; the input reads as it did. -/
def linesCostsUptoRow : OpenClaim := { program := "ytcnblneghbgjgaa", sum := "3c1196cd116c19f1fe908542c002f39ea44635b111666707cec021d1049befda", func := "stanza/stanzalaw16.LinesCosts", spec := "linesCosts", inPlace := ["math.Float64bits", "math.Float64frombits"], apart := false, narrowed := true }
def LinesCostsUptoSaid : Prop := linesCostsUptoRow.holds Try.pinned (OpenSpec.upto linesCostsSpec)

/-- 'stanzalaw16.LinesEach', WHERE WHAT IT READS IS OF BULK AT MOST 1048576: true; the input reads as it did. -/
def linesEachUptoRow : OpenClaim := { program := "ytcnblneghbgjgaa", sum := "3c1196cd116c19f1fe908542c002f39ea44635b111666707cec021d1049befda", func := "stanza/stanzalaw16.LinesEach", spec := "linesEach", inPlace := ["math.Float64bits", "math.Float64frombits"], apart := false, narrowed := true }
def LinesEachUptoSaid : Prop := linesEachUptoRow.holds Try.pinned (OpenSpec.upto linesEachSpec)

end Rows
end Go.Proofs.Ytcnblneghbgjgaa
