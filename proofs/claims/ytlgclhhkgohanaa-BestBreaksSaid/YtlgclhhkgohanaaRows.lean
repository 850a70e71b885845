/-
  No cell of these rows narrows 'for every input' (looked for: loops, veiled, ifaces, maps, wideKeys, modest, calm, conditions, laid).
  DERIVED. THE GIVEN ROWS OF THIS SEAT. 7 by the template 'for every input the law returns true; each argument reads behind the call as it read before'; 0 by the template 'total and deterministic' (their statements: YtlgclhhkgohanaaTotals.lean).
  GIVEN WITH THE SEED: the statements are not yours to turn. If you find one false, say at which input.
  Laid BY PROGRAM, IN A SANDBOX (cutbox-rows.mjs): the forced cells as the released guide's own fill.sh prints them over the translation 4095bf5aa969afb0… (all of the seat's roots in one cut). By AI agents, Wed Nov 11 2026. No macro, syntax, notation, axiom, sorry.
-/
import Derived.Test.YtlgclhhkgohanaaChecked
import GoSem.Claim
import GoSem.ClaimJoined
import GoSem.ClaimMapViews
import Derived.JoinedTies
import Derived.KernelRfl
namespace Go.Proofs.Ytlgclhhkgohanaa
/- THE CELL 'sum', in the pinned program and in every row, IS THE sha256 OF THE DUMP (.gsa) THAT YtlgclhhkgohanaaProg.lean LOADS. Nothing in Lean hashes anything: it is a label: what it is worth is what the hold of that sum in a sandbox is worth. -/
noncomputable def Try.pinned : Pinned := { name := "ytlgclhhkgohanaa", sum := "4095bf5aa969afb0585a67bbe1373ce142c4f1dea18f9889ce48242c9ae962d9", checked := Try.checked }
namespace Rows
def none {H : Type} : Left H := { results := [], args := [] }

/-- 'stanzalaw15.BestBreaks': WHATEVER THE INPUT: true; the input reads as it did. -/
def bestBreaksSpec : ChangeSpec := { name := "bestBreaks", fn := fun _ => fun
  | [d1, d2] => { results := [.lit (.bool true)], args := [d1, d2] }
  | _ => none }
def bestBreaksRow : OpenClaim := { program := "ytlgclhhkgohanaa", sum := "4095bf5aa969afb0585a67bbe1373ce142c4f1dea18f9889ce48242c9ae962d9", func := "stanza/stanzalaw15.BestBreaks", spec := "bestBreaks", inPlace := ["math.Float64bits", "math.Float64frombits"], apart := false }
def BestBreaksSaid : Prop := bestBreaksRow.holds Try.pinned (OpenSpec.ofChange bestBreaksSpec)

/-- ITS FALSE NEIGHBOUR: 'it returns false'. Refute it at one input. -/
def bestBreaksWrong : ChangeSpec := { name := "bestBreaks", fn := fun _ => fun
  | [d1, d2] => { results := [.lit (.bool false)], args := [d1, d2] }
  | _ => none }
def BestBreaksWrongFalsely : Prop := bestBreaksRow.holds Try.pinned (OpenSpec.ofChange bestBreaksWrong)

/-- 'stanzalaw15.BestRest': WHATEVER THE INPUT: true; the input reads as it did. -/
def bestRestSpec : ChangeSpec := { name := "bestRest", fn := fun _ => fun
  | [d1, d2] => { results := [.lit (.bool true)], args := [d1, d2] }
  | _ => none }
def bestRestRow : OpenClaim := { program := "ytlgclhhkgohanaa", sum := "4095bf5aa969afb0585a67bbe1373ce142c4f1dea18f9889ce48242c9ae962d9", func := "stanza/stanzalaw15.BestRest", spec := "bestRest", inPlace := ["math.Float64bits", "math.Float64frombits"], apart := false }
def BestRestSaid : Prop := bestRestRow.holds Try.pinned (OpenSpec.ofChange bestRestSpec)

/-- ITS FALSE NEIGHBOUR: 'it returns false'. Refute it at one input. -/
def bestRestWrong : ChangeSpec := { name := "bestRest", fn := fun _ => fun
  | [d1, d2] => { results := [.lit (.bool false)], args := [d1, d2] }
  | _ => none }
def BestRestWrongFalsely : Prop := bestRestRow.holds Try.pinned (OpenSpec.ofChange bestRestWrong)

/-- 'stanzalaw15.BestHyphens': WHATEVER THE INPUT: true; the input reads as it did. -/
def bestHyphensSpec : ChangeSpec := { name := "bestHyphens", fn := fun _ => fun
  | [d1, d2, d3] => { results := [.lit (.bool true)], args := [d1, d2, d3] }
  | _ => none }
def bestHyphensRow : OpenClaim := { program := "ytlgclhhkgohanaa", sum := "4095bf5aa969afb0585a67bbe1373ce142c4f1dea18f9889ce48242c9ae962d9", func := "stanza/stanzalaw15.BestHyphens", spec := "bestHyphens", inPlace := ["math.Float64bits", "math.Float64frombits"], unfollowed := true, recurses := true, apart := false }
def BestHyphensSaid : Prop := bestHyphensRow.holds Try.pinned (OpenSpec.ofChange bestHyphensSpec)

/-- ITS FALSE NEIGHBOUR: 'it returns false'. Refute it at one input. -/
def bestHyphensWrong : ChangeSpec := { name := "bestHyphens", fn := fun _ => fun
  | [d1, d2, d3] => { results := [.lit (.bool false)], args := [d1, d2, d3] }
  | _ => none }
def BestHyphensWrongFalsely : Prop := bestHyphensRow.holds Try.pinned (OpenSpec.ofChange bestHyphensWrong)

/-- 'stanzalaw15.BestOne': WHATEVER THE INPUT: true; the input reads as it did. -/
def bestOneSpec : ChangeSpec := { name := "bestOne", fn := fun _ => fun
  | [d1, d2] => { results := [.lit (.bool true)], args := [d1, d2] }
  | _ => none }
def bestOneRow : OpenClaim := { program := "ytlgclhhkgohanaa", sum := "4095bf5aa969afb0585a67bbe1373ce142c4f1dea18f9889ce48242c9ae962d9", func := "stanza/stanzalaw15.BestOne", spec := "bestOne", inPlace := ["math.Float64bits", "math.Float64frombits"], apart := false }
def BestOneSaid : Prop := bestOneRow.holds Try.pinned (OpenSpec.ofChange bestOneSpec)

/-- ITS FALSE NEIGHBOUR: 'it returns false'. Refute it at one input. -/
def bestOneWrong : ChangeSpec := { name := "bestOne", fn := fun _ => fun
  | [d1, d2] => { results := [.lit (.bool false)], args := [d1, d2] }
  | _ => none }
def BestOneWrongFalsely : Prop := bestOneRow.holds Try.pinned (OpenSpec.ofChange bestOneWrong)

/-- 'stanzalaw15.BestCosts': WHATEVER THE INPUT: true; the input reads as it did. -/
def bestCostsSpec : ChangeSpec := { name := "bestCosts", fn := fun _ => fun
  | [d1, d2, d3, d4, d5] => { results := [.lit (.bool true)], args := [d1, d2, d3, d4, d5] }
  | _ => none }
def bestCostsRow : OpenClaim := { program := "ytlgclhhkgohanaa", sum := "4095bf5aa969afb0585a67bbe1373ce142c4f1dea18f9889ce48242c9ae962d9", func := "stanza/stanzalaw15.BestCosts", spec := "bestCosts", inPlace := ["math.Float64bits", "math.Float64frombits"], apart := false }
def BestCostsSaid : Prop := bestCostsRow.holds Try.pinned (OpenSpec.ofChange bestCostsSpec)

/-- ITS FALSE NEIGHBOUR: 'it returns false'. Refute it at one input. -/
def bestCostsWrong : ChangeSpec := { name := "bestCosts", fn := fun _ => fun
  | [d1, d2, d3, d4, d5] => { results := [.lit (.bool false)], args := [d1, d2, d3, d4, d5] }
  | _ => none }
def BestCostsWrongFalsely : Prop := bestCostsRow.holds Try.pinned (OpenSpec.ofChange bestCostsWrong)

/-- 'stanzalaw15.BestLeast': WHATEVER THE INPUT: true; the input reads as it did. -/
def bestLeastSpec : ChangeSpec := { name := "bestLeast", fn := fun _ => fun
  | [d1, d2] => { results := [.lit (.bool true)], args := [d1, d2] }
  | _ => none }
def bestLeastRow : OpenClaim := { program := "ytlgclhhkgohanaa", sum := "4095bf5aa969afb0585a67bbe1373ce142c4f1dea18f9889ce48242c9ae962d9", func := "stanza/stanzalaw15.BestLeast", spec := "bestLeast", inPlace := ["math.Float64bits", "math.Float64frombits"], apart := false }
def BestLeastSaid : Prop := bestLeastRow.holds Try.pinned (OpenSpec.ofChange bestLeastSpec)

/-- ITS FALSE NEIGHBOUR: 'it returns false'. Refute it at one input. -/
def bestLeastWrong : ChangeSpec := { name := "bestLeast", fn := fun _ => fun
  | [d1, d2] => { results := [.lit (.bool false)], args := [d1, d2] }
  | _ => none }
def BestLeastWrongFalsely : Prop := bestLeastRow.holds Try.pinned (OpenSpec.ofChange bestLeastWrong)

/-- 'stanzalaw15.BestLoose': WHATEVER THE INPUT: true; the input reads as it did. -/
def bestLooseSpec : ChangeSpec := { name := "bestLoose", fn := fun _ => fun
  | [d1, d2, d3, d4, d5] => { results := [.lit (.bool true)], args := [d1, d2, d3, d4, d5] }
  | _ => none }
def bestLooseRow : OpenClaim := { program := "ytlgclhhkgohanaa", sum := "4095bf5aa969afb0585a67bbe1373ce142c4f1dea18f9889ce48242c9ae962d9", func := "stanza/stanzalaw15.BestLoose", spec := "bestLoose", inPlace := ["math.Float64bits", "math.Float64frombits"], apart := false }
def BestLooseSaid : Prop := bestLooseRow.holds Try.pinned (OpenSpec.ofChange bestLooseSpec)

/-- ITS FALSE NEIGHBOUR: 'it returns false'. Refute it at one input. -/
def bestLooseWrong : ChangeSpec := { name := "bestLoose", fn := fun _ => fun
  | [d1, d2, d3, d4, d5] => { results := [.lit (.bool false)], args := [d1, d2, d3, d4, d5] }
  | _ => none }
def BestLooseWrongFalsely : Prop := bestLooseRow.holds Try.pinned (OpenSpec.ofChange bestLooseWrong)

/- THE SECOND FORM. 'bulk': how many values and letters a reading holds, each counted each time it is reached (what is shared counts as often as it is met; a slice's spare places count too). A statement '..UptoSaid' is the law's where the arguments, and the package variables that the reading takes, are together of bulk at most 1048576: NARROWER than '..Said'. Prove '..Said' where nothing that the law and all that it calls make is longer than what came in: it says more and counts as full. Else prove '..UptoSaid'. A law counts once. -/
mutual
def uptoBulk {H : Type} : DataW H → Nat
  | .lit (.string bytes) => bytes.length + 1
  | .lit _ => 1
  | .nil => 1
  | .ptr d => uptoBulk d + 1
  | .slice elems spare => uptoBulkAll elems + uptoBulkAll spare + 1
  | .agg parts => uptoBulkAll parts + 1
  | .iface _ d => uptoBulk d + 1
  | .map entries => uptoBulkEntries entries + 1
  | .held _ => 1
def uptoBulkAll {H : Type} : List (DataW H) → Nat
  | [] => 0
  | d :: r => uptoBulk d + uptoBulkAll r
def uptoBulkEntries {H : Type} : List (Lit × DataW H) → Nat
  | [] => 0
  | x :: r => uptoBulkEntry x + uptoBulkEntries r
def uptoBulkEntry {H : Type} : Lit × DataW H → Nat
  | (.string bytes, d) => bytes.length + uptoBulk d + 1
  | (_, d) => uptoBulk d + 1
 end
def uptoSmall : (H : Type) → List (DataW H) → Bool := fun _ ds => decide (uptoBulkAll ds ≤ 1048576)
def OpenSpec.upto (s : _root_.Go.ChangeSpec) : _root_.Go.OpenSpec := { _root_.Go.OpenSpec.ofChange s with cond := some uptoSmall }

/-- 'stanzalaw15.BestBreaks', WHERE WHAT IT READS IS OF BULK AT MOST 1048576: true; the input reads as it did. -/
def bestBreaksUptoRow : OpenClaim := { program := "ytlgclhhkgohanaa", sum := "4095bf5aa969afb0585a67bbe1373ce142c4f1dea18f9889ce48242c9ae962d9", func := "stanza/stanzalaw15.BestBreaks", spec := "bestBreaks", inPlace := ["math.Float64bits", "math.Float64frombits"], apart := false, narrowed := true }
def BestBreaksUptoSaid : Prop := bestBreaksUptoRow.holds Try.pinned (OpenSpec.upto bestBreaksSpec)

/-- 'stanzalaw15.BestRest', WHERE WHAT IT READS IS OF BULK AT MOST 1048576: true; the input reads as it did. -/
def bestRestUptoRow : OpenClaim := { program := "ytlgclhhkgohanaa", sum := "4095bf5aa969afb0585a67bbe1373ce142c4f1dea18f9889ce48242c9ae962d9", func := "stanza/stanzalaw15.BestRest", spec := "bestRest", inPlace := ["math.Float64bits", "math.Float64frombits"], apart := false, narrowed := true }
def BestRestUptoSaid : Prop := bestRestUptoRow.holds Try.pinned (OpenSpec.upto bestRestSpec)

/-- 'stanzalaw15.BestHyphens', WHERE WHAT IT READS IS OF BULK AT MOST 1048576: true; the input reads as it did. -/
def bestHyphensUptoRow : OpenClaim := { program := "ytlgclhhkgohanaa", sum := "4095bf5aa969afb0585a67bbe1373ce142c4f1dea18f9889ce48242c9ae962d9", func := "stanza/stanzalaw15.BestHyphens", spec := "bestHyphens", inPlace := ["math.Float64bits", "math.Float64frombits"], unfollowed := true, recurses := true, apart := false, narrowed := true }
def BestHyphensUptoSaid : Prop := bestHyphensUptoRow.holds Try.pinned (OpenSpec.upto bestHyphensSpec)

/-- 'stanzalaw15.BestOne', WHERE WHAT IT READS IS OF BULK AT MOST 1048576: true; the input reads as it did. -/
def bestOneUptoRow : OpenClaim := { program := "ytlgclhhkgohanaa", sum := "4095bf5aa969afb0585a67bbe1373ce142c4f1dea18f9889ce48242c9ae962d9", func := "stanza/stanzalaw15.BestOne", spec := "bestOne", inPlace := ["math.Float64bits", "math.Float64frombits"], apart := false, narrowed := true }
def BestOneUptoSaid : Prop := bestOneUptoRow.holds Try.pinned (OpenSpec.upto bestOneSpec)

/-- 'stanzalaw15.BestCosts', WHERE WHAT IT READS IS OF BULK AT MOST 1048576: true; the input reads as it did. -/
def bestCostsUptoRow : OpenClaim := { program := "ytlgclhhkgohanaa", sum := "4095bf5aa969afb0585a67bbe1373ce142c4f1dea18f9889ce48242c9ae962d9", func := "stanza/stanzalaw15.BestCosts", spec := "bestCosts", inPlace := ["math.Float64bits", "math.Float64frombits"], apart := false, narrowed := true }
def BestCostsUptoSaid : Prop := bestCostsUptoRow.holds Try.pinned (OpenSpec.upto bestCostsSpec)

/-- 'stanzalaw15.BestLeast', WHERE WHAT IT READS IS OF BULK AT MOST 1048576: true; the input reads as it did. -/
def bestLeastUptoRow : OpenClaim := { program := "ytlgclhhkgohanaa", sum := "4095bf5aa969afb0585a67bbe1373ce142c4f1dea18f9889ce48242c9ae962d9", func := "stanza/stanzalaw15.BestLeast", spec := "bestLeast", inPlace := ["math.Float64bits", "math.Float64frombits"], apart := false, narrowed := true }
def BestLeastUptoSaid : Prop := bestLeastUptoRow.holds Try.pinned (OpenSpec.upto bestLeastSpec)

/-- 'stanzalaw15.BestLoose', WHERE WHAT IT READS IS OF BULK AT MOST 1048576: true; the input reads as it did. -/
def bestLooseUptoRow : OpenClaim := { program := "ytlgclhhkgohanaa", sum := "4095bf5aa969afb0585a67bbe1373ce142c4f1dea18f9889ce48242c9ae962d9", func := "stanza/stanzalaw15.BestLoose", spec := "bestLoose", inPlace := ["math.Float64bits", "math.Float64frombits"], apart := false, narrowed := true }
def BestLooseUptoSaid : Prop := bestLooseUptoRow.holds Try.pinned (OpenSpec.upto bestLooseSpec)

end Rows
end Go.Proofs.Ytlgclhhkgohanaa
