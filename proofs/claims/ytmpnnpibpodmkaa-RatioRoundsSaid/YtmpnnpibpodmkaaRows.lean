/-
  No cell of these rows narrows 'for every input' (looked for: loops, veiled, ifaces, maps, wideKeys, modest, calm, conditions, laid).
  DERIVED. THE GIVEN ROWS OF THIS SEAT. 7 by the template 'for every input the law returns true; each argument reads behind the call as it read before'; 0 by the template 'total and deterministic' (their statements: YtmpnnpibpodmkaaTotals.lean).
  GIVEN WITH THE SEED: the statements are not yours to turn. If you find one false, say at which input.
  Laid BY PROGRAM, IN A SANDBOX (cutbox-rows.mjs): the forced cells as the released guide's own fill.sh prints them over the translation d58ee679b8f66a8d… (all of the seat's roots in one cut). By AI agents, Wed Nov 11 2026. No macro, syntax, notation, axiom, sorry.
-/
import Derived.Test.YtmpnnpibpodmkaaChecked
import GoSem.Claim
import GoSem.ClaimJoined
import GoSem.ClaimMapViews
import Derived.JoinedTies
import Derived.KernelRfl
namespace Go.Proofs.Ytmpnnpibpodmkaa
/- THE CELL 'sum', in the pinned program and in every row, IS THE sha256 OF THE DUMP (.gsa) THAT YtmpnnpibpodmkaaProg.lean LOADS. Nothing in Lean hashes anything: it is a label: what it is worth is what the hold of that sum in a sandbox is worth. -/
noncomputable def Try.pinned : Pinned := { name := "ytmpnnpibpodmkaa", sum := "d58ee679b8f66a8daec924e0a9fdf9bcdeb60685e934fcbf4292f64ae4ff1d1c", checked := Try.checked }
namespace Rows
def none {H : Type} : Left H := { results := [], args := [] }

/-- 'stanzalaw12.RatioOrders': WHATEVER THE INPUT: true; the input reads as it did. -/
def ratioOrdersSpec : ChangeSpec := { name := "ratioOrders", fn := fun _ => fun
  | [d1, d2] => { results := [.lit (.bool true)], args := [d1, d2] }
  | _ => none }
def ratioOrdersRow : OpenClaim := { program := "ytmpnnpibpodmkaa", sum := "d58ee679b8f66a8daec924e0a9fdf9bcdeb60685e934fcbf4292f64ae4ff1d1c", func := "stanza/stanzalaw12.RatioOrders", spec := "ratioOrders", inPlace := ["math.Float64frombits", "math.Float64bits", "math.RoundToEven"], apart := false }
def RatioOrdersSaid : Prop := ratioOrdersRow.holds Try.pinned (OpenSpec.ofChange ratioOrdersSpec)

/-- ITS FALSE NEIGHBOUR: 'it returns false'. Refute it at one input. -/
def ratioOrdersWrong : ChangeSpec := { name := "ratioOrders", fn := fun _ => fun
  | [d1, d2] => { results := [.lit (.bool false)], args := [d1, d2] }
  | _ => none }
def RatioOrdersWrongFalsely : Prop := ratioOrdersRow.holds Try.pinned (OpenSpec.ofChange ratioOrdersWrong)

/-- 'stanzalaw12.RatioWhole': WHATEVER THE INPUT: true; the input reads as it did. -/
def ratioWholeSpec : ChangeSpec := { name := "ratioWhole", fn := fun _ => fun
  | [d1, d2, d3] => { results := [.lit (.bool true)], args := [d1, d2, d3] }
  | _ => none }
def ratioWholeRow : OpenClaim := { program := "ytmpnnpibpodmkaa", sum := "d58ee679b8f66a8daec924e0a9fdf9bcdeb60685e934fcbf4292f64ae4ff1d1c", func := "stanza/stanzalaw12.RatioWhole", spec := "ratioWhole", inPlace := ["math.Float64frombits", "math.Float64bits", "math.RoundToEven"], apart := false }
def RatioWholeSaid : Prop := ratioWholeRow.holds Try.pinned (OpenSpec.ofChange ratioWholeSpec)

/-- ITS FALSE NEIGHBOUR: 'it returns false'. Refute it at one input. -/
def ratioWholeWrong : ChangeSpec := { name := "ratioWhole", fn := fun _ => fun
  | [d1, d2, d3] => { results := [.lit (.bool false)], args := [d1, d2, d3] }
  | _ => none }
def RatioWholeWrongFalsely : Prop := ratioWholeRow.holds Try.pinned (OpenSpec.ofChange ratioWholeWrong)

/-- 'stanzalaw12.RatioBadness': WHATEVER THE INPUT: true; the input reads as it did. -/
def ratioBadnessSpec : ChangeSpec := { name := "ratioBadness", fn := fun _ => fun
  | [d1, d2, d3] => { results := [.lit (.bool true)], args := [d1, d2, d3] }
  | _ => none }
def ratioBadnessRow : OpenClaim := { program := "ytmpnnpibpodmkaa", sum := "d58ee679b8f66a8daec924e0a9fdf9bcdeb60685e934fcbf4292f64ae4ff1d1c", func := "stanza/stanzalaw12.RatioBadness", spec := "ratioBadness", inPlace := ["math.Float64frombits", "math.Float64bits", "math.RoundToEven"], apart := false }
def RatioBadnessSaid : Prop := ratioBadnessRow.holds Try.pinned (OpenSpec.ofChange ratioBadnessSpec)

/-- ITS FALSE NEIGHBOUR: 'it returns false'. Refute it at one input. -/
def ratioBadnessWrong : ChangeSpec := { name := "ratioBadness", fn := fun _ => fun
  | [d1, d2, d3] => { results := [.lit (.bool false)], args := [d1, d2, d3] }
  | _ => none }
def RatioBadnessWrongFalsely : Prop := ratioBadnessRow.holds Try.pinned (OpenSpec.ofChange ratioBadnessWrong)

/-- 'stanzalaw12.RatioBlends': WHATEVER THE INPUT: true; the input reads as it did. -/
def ratioBlendsSpec : ChangeSpec := { name := "ratioBlends", fn := fun _ => fun
  | [d1, d2, d3] => { results := [.lit (.bool true)], args := [d1, d2, d3] }
  | _ => none }
def ratioBlendsRow : OpenClaim := { program := "ytmpnnpibpodmkaa", sum := "d58ee679b8f66a8daec924e0a9fdf9bcdeb60685e934fcbf4292f64ae4ff1d1c", func := "stanza/stanzalaw12.RatioBlends", spec := "ratioBlends", inPlace := ["math.Float64frombits", "math.Float64bits", "math.RoundToEven"], apart := false }
def RatioBlendsSaid : Prop := ratioBlendsRow.holds Try.pinned (OpenSpec.ofChange ratioBlendsSpec)

/-- ITS FALSE NEIGHBOUR: 'it returns false'. Refute it at one input. -/
def ratioBlendsWrong : ChangeSpec := { name := "ratioBlends", fn := fun _ => fun
  | [d1, d2, d3] => { results := [.lit (.bool false)], args := [d1, d2, d3] }
  | _ => none }
def RatioBlendsWrongFalsely : Prop := ratioBlendsRow.holds Try.pinned (OpenSpec.ofChange ratioBlendsWrong)

/-- 'stanzalaw12.RatioOf': WHATEVER THE INPUT: true; the input reads as it did. -/
def ratioOfSpec : ChangeSpec := { name := "ratioOf", fn := fun _ => fun
  | [d1, d2, d3] => { results := [.lit (.bool true)], args := [d1, d2, d3] }
  | _ => none }
def ratioOfRow : OpenClaim := { program := "ytmpnnpibpodmkaa", sum := "d58ee679b8f66a8daec924e0a9fdf9bcdeb60685e934fcbf4292f64ae4ff1d1c", func := "stanza/stanzalaw12.RatioOf", spec := "ratioOf", inPlace := ["math.Float64frombits", "math.Float64bits", "math.RoundToEven"], apart := false }
def RatioOfSaid : Prop := ratioOfRow.holds Try.pinned (OpenSpec.ofChange ratioOfSpec)

/-- ITS FALSE NEIGHBOUR: 'it returns false'. Refute it at one input. -/
def ratioOfWrong : ChangeSpec := { name := "ratioOf", fn := fun _ => fun
  | [d1, d2, d3] => { results := [.lit (.bool false)], args := [d1, d2, d3] }
  | _ => none }
def RatioOfWrongFalsely : Prop := ratioOfRow.holds Try.pinned (OpenSpec.ofChange ratioOfWrong)

/-- 'stanzalaw12.RatioMeans': WHATEVER THE INPUT: true; the input reads as it did. -/
def ratioMeansSpec : ChangeSpec := { name := "ratioMeans", fn := fun _ => fun
  | [d] => { results := [.lit (.bool true)], args := [d] }
  | _ => none }
def ratioMeansRow : OpenClaim := { program := "ytmpnnpibpodmkaa", sum := "d58ee679b8f66a8daec924e0a9fdf9bcdeb60685e934fcbf4292f64ae4ff1d1c", func := "stanza/stanzalaw12.RatioMeans", spec := "ratioMeans", inPlace := ["math.Float64frombits", "math.Float64bits", "math.RoundToEven"], apart := false }
def RatioMeansSaid : Prop := ratioMeansRow.holds Try.pinned (OpenSpec.ofChange ratioMeansSpec)

/-- ITS FALSE NEIGHBOUR: 'it returns false'. Refute it at one input. -/
def ratioMeansWrong : ChangeSpec := { name := "ratioMeans", fn := fun _ => fun
  | [d] => { results := [.lit (.bool false)], args := [d] }
  | _ => none }
def RatioMeansWrongFalsely : Prop := ratioMeansRow.holds Try.pinned (OpenSpec.ofChange ratioMeansWrong)

/-- 'stanzalaw12.RatioRounds': WHATEVER THE INPUT: true; the input reads as it did. -/
def ratioRoundsSpec : ChangeSpec := { name := "ratioRounds", fn := fun _ => fun
  | [d1, d2] => { results := [.lit (.bool true)], args := [d1, d2] }
  | _ => none }
def ratioRoundsRow : OpenClaim := { program := "ytmpnnpibpodmkaa", sum := "d58ee679b8f66a8daec924e0a9fdf9bcdeb60685e934fcbf4292f64ae4ff1d1c", func := "stanza/stanzalaw12.RatioRounds", spec := "ratioRounds", inPlace := ["math.Float64frombits", "math.Float64bits", "math.RoundToEven", "math.archFloor", "math.archTrunc"], apart := false }
def RatioRoundsSaid : Prop := ratioRoundsRow.holds Try.pinned (OpenSpec.ofChange ratioRoundsSpec)

/-- ITS FALSE NEIGHBOUR: 'it returns false'. Refute it at one input. -/
def ratioRoundsWrong : ChangeSpec := { name := "ratioRounds", fn := fun _ => fun
  | [d1, d2] => { results := [.lit (.bool false)], args := [d1, d2] }
  | _ => none }
def RatioRoundsWrongFalsely : Prop := ratioRoundsRow.holds Try.pinned (OpenSpec.ofChange ratioRoundsWrong)

/- THE SECOND FORM. 'bulk': how many values and letters a reading holds, each counted each time it is reached (what is shared counts as often as it is met; a slice's spare places count too). A statement '..UptoSaid' is the law's where the arguments, and the package variables that the reading takes, are together of bulk at most 1048576: NARROWER than '..Said'. Prove '..Said' where nothing that the law and all that it calls make is longer than what came in: it says more and counts as full. Else prove '..UptoSaid'. A law counts once. -/
mutual
def uptoBulk {H : Type} : DataW H → Nat
  | .lit (.string bytes) => bytes.length + 1
  | .lit _ => 1
  | .nil => 1
  | .ptr d => uptoBulk d + 1
  | .slice elems spare => uptoBulkAll elems + uptoBulkAll spare + 1
  | .agg parts => uptoBulkAll parts + 1
  | .iface _ d => uptoBulk d + 1
  | .map entries => uptoBulkEntries entries + 1
  | .held _ => 1
def uptoBulkAll {H : Type} : List (DataW H) → Nat
  | [] => 0
  | d :: r => uptoBulk d + uptoBulkAll r
def uptoBulkEntries {H : Type} : List (Lit × DataW H) → Nat
  | [] => 0
  | x :: r => uptoBulkEntry x + uptoBulkEntries r
def uptoBulkEntry {H : Type} : Lit × DataW H → Nat
  | (.string bytes, d) => bytes.length + uptoBulk d + 1
  | (_, d) => uptoBulk d + 1
 end
def uptoSmall : (H : Type) → List (DataW H) → Bool := fun _ ds => decide (uptoBulkAll ds ≤ 1048576)
def OpenSpec.upto (s : _root_.Go.ChangeSpec) : _root_.Go.OpenSpec := { _root_.Go.OpenSpec.ofChange s with cond := some uptoSmall }

/-- 'stanzalaw12.RatioOrders', WHERE WHAT IT READS IS OF BULK AT MOST 1048576: true; the input reads as it did. -/
def ratioOrdersUptoRow : OpenClaim := { program := "ytmpnnpibpodmkaa", sum := "d58ee679b8f66a8daec924e0a9fdf9bcdeb60685e934fcbf4292f64ae4ff1d1c", func := "stanza/stanzalaw12.RatioOrders", spec := "ratioOrders", inPlace := ["math.Float64frombits", "math.Float64bits", "math.RoundToEven"], apart := false, narrowed := true }
def RatioOrdersUptoSaid : Prop := ratioOrdersUptoRow.holds Try.pinned (OpenSpec.upto ratioOrdersSpec)

/-- 'stanzalaw12.RatioWhole', WHERE WHAT IT READS IS OF BULK AT MOST 1048576: true; the input reads as it did. -/
def ratioWholeUptoRow : OpenClaim := { program := "ytmpnnpibpodmkaa", sum := "d58ee679b8f66a8daec924e0a9fdf9bcdeb60685e934fcbf4292f64ae4ff1d1c", func := "stanza/stanzalaw12.RatioWhole", spec := "ratioWhole", inPlace := ["math.Float64frombits", "math.Float64bits", "math.RoundToEven"], apart := false, narrowed := true }
def RatioWholeUptoSaid : Prop := ratioWholeUptoRow.holds Try.pinned (OpenSpec.upto ratioWholeSpec)

/-- 'stanzalaw12.RatioBadness', WHERE WHAT IT READS IS OF BULK AT MOST 1048576: true; the input reads as it did. -/
def ratioBadnessUptoRow : OpenClaim := { program := "ytmpnnpibpodmkaa", sum := "d58ee679b8f66a8daec924e0a9fdf9bcdeb60685e934fcbf4292f64ae4ff1d1c", func := "stanza/stanzalaw12.RatioBadness", spec := "ratioBadness", inPlace := ["math.Float64frombits", "math.Float64bits", "math.RoundToEven"], apart := false, narrowed := true }
def RatioBadnessUptoSaid : Prop := ratioBadnessUptoRow.holds Try.pinned (OpenSpec.upto ratioBadnessSpec)

/-- 'stanzalaw12.RatioBlends', WHERE WHAT IT READS IS OF BULK AT MOST 1048576: true; the input reads as it did. -/
def ratioBlendsUptoRow : OpenClaim := { program := "ytmpnnpibpodmkaa", sum := "d58ee679b8f66a8daec924e0a9fdf9bcdeb60685e934fcbf4292f64ae4ff1d1c", func := "stanza/stanzalaw12.RatioBlends", spec := "ratioBlends", inPlace := ["math.Float64frombits", "math.Float64bits", "math.RoundToEven"], apart := false, narrowed := true }
def RatioBlendsUptoSaid : Prop := ratioBlendsUptoRow.holds Try.pinned (OpenSpec.upto ratioBlendsSpec)

/-- 'stanzalaw12.RatioOf', WHERE WHAT IT READS IS OF BULK AT MOST 1048576: true; the input reads as it did. -/
def ratioOfUptoRow : OpenClaim := { program := "ytmpnnpibpodmkaa", sum := "d58ee679b8f66a8daec924e0a9fdf9bcdeb60685e934fcbf4292f64ae4ff1d1c", func := "stanza/stanzalaw12.RatioOf", spec := "ratioOf", inPlace := ["math.Float64frombits", "math.Float64bits", "math.RoundToEven"], apart := false, narrowed := true }
def RatioOfUptoSaid : Prop := ratioOfUptoRow.holds Try.pinned (OpenSpec.upto ratioOfSpec)

/-- 'stanzalaw12.RatioMeans', WHERE WHAT IT READS IS OF BULK AT MOST 1048576: true; the input reads as it did. -/
def ratioMeansUptoRow : OpenClaim := { program := "ytmpnnpibpodmkaa", sum := "d58ee679b8f66a8daec924e0a9fdf9bcdeb60685e934fcbf4292f64ae4ff1d1c", func := "stanza/stanzalaw12.RatioMeans", spec := "ratioMeans", inPlace := ["math.Float64frombits", "math.Float64bits", "math.RoundToEven"], apart := false, narrowed := true }
def RatioMeansUptoSaid : Prop := ratioMeansUptoRow.holds Try.pinned (OpenSpec.upto ratioMeansSpec)

/-- 'stanzalaw12.RatioRounds', WHERE WHAT IT READS IS OF BULK AT MOST 1048576: true; the input reads as it did. -/
def ratioRoundsUptoRow : OpenClaim := { program := "ytmpnnpibpodmkaa", sum := "d58ee679b8f66a8daec924e0a9fdf9bcdeb60685e934fcbf4292f64ae4ff1d1c", func := "stanza/stanzalaw12.RatioRounds", spec := "ratioRounds", inPlace := ["math.Float64frombits", "math.Float64bits", "math.RoundToEven", "math.archFloor", "math.archTrunc"], apart := false, narrowed := true }
def RatioRoundsUptoSaid : Prop := ratioRoundsUptoRow.holds Try.pinned (OpenSpec.upto ratioRoundsSpec)

end Rows
end Go.Proofs.Ytmpnnpibpodmkaa
