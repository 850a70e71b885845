/-
  No cell of these rows narrows 'for every input' (looked for: loops, veiled, ifaces, maps, wideKeys, modest, calm, conditions, laid).
  DERIVED. THE GIVEN ROWS OF THIS SEAT. 6 by the template 'for every input the law returns true; each argument reads behind the call as it read before'; 0 by the template 'total and deterministic' (their statements: YtcgbndojpcaboaaTotals.lean).
  GIVEN WITH THE SEED: the statements are not yours to turn. If you find one false, say at which input.
  Laid BY PROGRAM, IN A SANDBOX (cutbox-rows.mjs): the forced cells as the released guide's own fill.sh prints them over the translation efdeb8dc21f872db… (all of the seat's roots in one cut). By AI agents, Wed Nov 11 2026. No macro, syntax, notation, axiom, sorry.
-/
import Derived.Test.YtcgbndojpcaboaaChecked
import GoSem.Claim
import GoSem.ClaimJoined
import GoSem.ClaimMapViews
import Derived.JoinedTies
import Derived.KernelRfl
namespace Go.Proofs.Ytcgbndojpcaboaa
/- THE CELL 'sum', in the pinned program and in every row, IS THE sha256 OF THE DUMP (.gsa) THAT YtcgbndojpcaboaaProg.lean LOADS. Nothing in Lean hashes anything: it is a label: what it is worth is what the hold of that sum in a sandbox is worth. -/
noncomputable def Try.pinned : Pinned := { name := "ytcgbndojpcaboaa", sum := "efdeb8dc21f872dbf84f2d6966a1fe3b238aba78130033a5ae04eb03cfb6b629", checked := Try.checked }
namespace Rows
def none {H : Type} : Left H := { results := [], args := [] }

/-- 'stanzalaw02.PropChecks': WHATEVER THE INPUT: true; the input reads as it did. -/
def propChecksSpec : ChangeSpec := { name := "propChecks", fn := fun _ => fun
  | [d1, d2] => { results := [.lit (.bool true)], args := [d1, d2] }
  | _ => none }
def propChecksRow : OpenClaim := { program := "ytcgbndojpcaboaa", sum := "efdeb8dc21f872dbf84f2d6966a1fe3b238aba78130033a5ae04eb03cfb6b629", func := "stanza/stanzalaw02.PropChecks", spec := "propChecks", plainKeys := false, apart := false }
def PropChecksSaid : Prop := propChecksRow.holds Try.pinned (OpenSpec.ofChange propChecksSpec)

/-- ITS FALSE NEIGHBOUR: 'it returns false'. Refute it at one input. -/
def propChecksWrong : ChangeSpec := { name := "propChecks", fn := fun _ => fun
  | [d1, d2] => { results := [.lit (.bool false)], args := [d1, d2] }
  | _ => none }
def PropChecksWrongFalsely : Prop := propChecksRow.holds Try.pinned (OpenSpec.ofChange propChecksWrong)

/-- 'stanzalaw02.PropOf': WHATEVER THE INPUT: true; the input reads as it did. -/
def propOfSpec : ChangeSpec := { name := "propOf", fn := fun _ => fun
  | [d1, d2] => { results := [.lit (.bool true)], args := [d1, d2] }
  | _ => none }
def propOfRow : OpenClaim := { program := "ytcgbndojpcaboaa", sum := "efdeb8dc21f872dbf84f2d6966a1fe3b238aba78130033a5ae04eb03cfb6b629", func := "stanza/stanzalaw02.PropOf", spec := "propOf", plainKeys := false, apart := false }
def PropOfSaid : Prop := propOfRow.holds Try.pinned (OpenSpec.ofChange propOfSpec)

/-- ITS FALSE NEIGHBOUR: 'it returns false'. Refute it at one input. -/
def propOfWrong : ChangeSpec := { name := "propOf", fn := fun _ => fun
  | [d1, d2] => { results := [.lit (.bool false)], args := [d1, d2] }
  | _ => none }
def PropOfWrongFalsely : Prop := propOfRow.holds Try.pinned (OpenSpec.ofChange propOfWrong)

/-- 'stanzalaw02.PropBlocks': WHATEVER THE INPUT: true; the input reads as it did. -/
def propBlocksSpec : ChangeSpec := { name := "propBlocks", fn := fun _ => fun
  | [d] => { results := [.lit (.bool true)], args := [d] }
  | _ => none }
def propBlocksRow : OpenClaim := { program := "ytcgbndojpcaboaa", sum := "efdeb8dc21f872dbf84f2d6966a1fe3b238aba78130033a5ae04eb03cfb6b629", func := "stanza/stanzalaw02.PropBlocks", spec := "propBlocks", plainKeys := false, apart := false }
def PropBlocksSaid : Prop := propBlocksRow.holds Try.pinned (OpenSpec.ofChange propBlocksSpec)

/-- ITS FALSE NEIGHBOUR: 'it returns false'. Refute it at one input. -/
def propBlocksWrong : ChangeSpec := { name := "propBlocks", fn := fun _ => fun
  | [d] => { results := [.lit (.bool false)], args := [d] }
  | _ => none }
def PropBlocksWrongFalsely : Prop := propBlocksRow.holds Try.pinned (OpenSpec.ofChange propBlocksWrong)

/-- 'stanzalaw02.PropSplits': WHATEVER THE INPUT: true; the input reads as it did. -/
def propSplitsSpec : ChangeSpec := { name := "propSplits", fn := fun _ => fun
  | [d1, d2, d3, d4] => { results := [.lit (.bool true)], args := [d1, d2, d3, d4] }
  | _ => none }
def propSplitsRow : OpenClaim := { program := "ytcgbndojpcaboaa", sum := "efdeb8dc21f872dbf84f2d6966a1fe3b238aba78130033a5ae04eb03cfb6b629", func := "stanza/stanzalaw02.PropSplits", spec := "propSplits", plainKeys := false, apart := false }
def PropSplitsSaid : Prop := propSplitsRow.holds Try.pinned (OpenSpec.ofChange propSplitsSpec)

/-- ITS FALSE NEIGHBOUR: 'it returns false'. Refute it at one input. -/
def propSplitsWrong : ChangeSpec := { name := "propSplits", fn := fun _ => fun
  | [d1, d2, d3, d4] => { results := [.lit (.bool false)], args := [d1, d2, d3, d4] }
  | _ => none }
def PropSplitsWrongFalsely : Prop := propSplitsRow.holds Try.pinned (OpenSpec.ofChange propSplitsWrong)

/-- 'stanzalaw02.PropLimits': WHATEVER THE INPUT: true; the input reads as it did. -/
def propLimitsSpec : ChangeSpec := { name := "propLimits", fn := fun _ => fun
  | [d1, d2] => { results := [.lit (.bool true)], args := [d1, d2] }
  | _ => none }
def propLimitsRow : OpenClaim := { program := "ytcgbndojpcaboaa", sum := "efdeb8dc21f872dbf84f2d6966a1fe3b238aba78130033a5ae04eb03cfb6b629", func := "stanza/stanzalaw02.PropLimits", spec := "propLimits", plainKeys := false, apart := false }
def PropLimitsSaid : Prop := propLimitsRow.holds Try.pinned (OpenSpec.ofChange propLimitsSpec)

/-- ITS FALSE NEIGHBOUR: 'it returns false'. Refute it at one input. -/
def propLimitsWrong : ChangeSpec := { name := "propLimits", fn := fun _ => fun
  | [d1, d2] => { results := [.lit (.bool false)], args := [d1, d2] }
  | _ => none }
def PropLimitsWrongFalsely : Prop := propLimitsRow.holds Try.pinned (OpenSpec.ofChange propLimitsWrong)

/-- 'stanzalaw02.PropEach': WHATEVER THE INPUT: true; the input reads as it did. -/
def propEachSpec : ChangeSpec := { name := "propEach", fn := fun _ => fun
  | [d1, d2] => { results := [.lit (.bool true)], args := [d1, d2] }
  | _ => none }
def propEachRow : OpenClaim := { program := "ytcgbndojpcaboaa", sum := "efdeb8dc21f872dbf84f2d6966a1fe3b238aba78130033a5ae04eb03cfb6b629", func := "stanza/stanzalaw02.PropEach", spec := "propEach", plainKeys := false, apart := false }
def PropEachSaid : Prop := propEachRow.holds Try.pinned (OpenSpec.ofChange propEachSpec)

/-- ITS FALSE NEIGHBOUR: 'it returns false'. Refute it at one input. -/
def propEachWrong : ChangeSpec := { name := "propEach", fn := fun _ => fun
  | [d1, d2] => { results := [.lit (.bool false)], args := [d1, d2] }
  | _ => none }
def PropEachWrongFalsely : Prop := propEachRow.holds Try.pinned (OpenSpec.ofChange propEachWrong)

/- THE SECOND FORM. 'bulk': how many values and letters a reading holds, each counted each time it is reached (what is shared counts as often as it is met; a slice's spare places count too). A statement '..UptoSaid' is the law's where the arguments, and the package variables that the reading takes, are together of bulk at most 1048576: NARROWER than '..Said'. Prove '..Said' where nothing that the law and all that it calls make is longer than what came in: it says more and counts as full. Else prove '..UptoSaid'. A law counts once. -/
mutual
def uptoBulk {H : Type} : DataW H → Nat
  | .lit (.string bytes) => bytes.length + 1
  | .lit _ => 1
  | .nil => 1
  | .ptr d => uptoBulk d + 1
  | .slice elems spare => uptoBulkAll elems + uptoBulkAll spare + 1
  | .agg parts => uptoBulkAll parts + 1
  | .iface _ d => uptoBulk d + 1
  | .map entries => uptoBulkEntries entries + 1
  | .held _ => 1
def uptoBulkAll {H : Type} : List (DataW H) → Nat
  | [] => 0
  | d :: r => uptoBulk d + uptoBulkAll r
def uptoBulkEntries {H : Type} : List (Lit × DataW H) → Nat
  | [] => 0
  | x :: r => uptoBulkEntry x + uptoBulkEntries r
def uptoBulkEntry {H : Type} : Lit × DataW H → Nat
  | (.string bytes, d) => bytes.length + uptoBulk d + 1
  | (_, d) => uptoBulk d + 1
 end
def uptoSmall : (H : Type) → List (DataW H) → Bool := fun _ ds => decide (uptoBulkAll ds ≤ 1048576)
def OpenSpec.upto (s : _root_.Go.ChangeSpec) : _root_.Go.OpenSpec := { _root_.Go.OpenSpec.ofChange s with cond := some uptoSmall }

/-- 'stanzalaw02.PropChecks', WHERE WHAT IT READS IS OF BULK AT MOST 1048576: true; the input reads as it did. -/
def propChecksUptoRow : OpenClaim := { program := "ytcgbndojpcaboaa", sum := "efdeb8dc21f872dbf84f2d6966a1fe3b238aba78130033a5ae04eb03cfb6b629", func := "stanza/stanzalaw02.PropChecks", spec := "propChecks", plainKeys := false, apart := false, narrowed := true }
def PropChecksUptoSaid : Prop := propChecksUptoRow.holds Try.pinned (OpenSpec.upto propChecksSpec)

/-- 'stanzalaw02.PropOf', WHERE WHAT IT READS IS OF BULK AT MOST 1048576: true; the input reads as it did. -/
def propOfUptoRow : OpenClaim := { program := "ytcgbndojpcaboaa", sum := "efdeb8dc21f872dbf84f2d6966a1fe3b238aba78130033a5ae04eb03cfb6b629", func := "stanza/stanzalaw02.PropOf", spec := "propOf", plainKeys := false, apart := false, narrowed := true }
def PropOfUptoSaid : Prop := propOfUptoRow.holds Try.pinned (OpenSpec.upto propOfSpec)

/-- 'stanzalaw02.PropBlocks', WHERE WHAT IT READS IS OF BULK AT MOST 1048576: true; the input reads as it did. -/
def propBlocksUptoRow : OpenClaim := { program := "ytcgbndojpcaboaa", sum := "efdeb8dc21f872dbf84f2d6966a1fe3b238aba78130033a5ae04eb03cfb6b629", func := "stanza/stanzalaw02.PropBlocks", spec := "propBlocks", plainKeys := false, apart := false, narrowed := true }
def PropBlocksUptoSaid : Prop := propBlocksUptoRow.holds Try.pinned (OpenSpec.upto propBlocksSpec)

/-- 'stanzalaw02.PropSplits', WHERE WHAT IT READS IS OF BULK AT MOST 1048576: true; the input reads as it did. -/
def propSplitsUptoRow : OpenClaim := { program := "ytcgbndojpcaboaa", sum := "efdeb8dc21f872dbf84f2d6966a1fe3b238aba78130033a5ae04eb03cfb6b629", func := "stanza/stanzalaw02.PropSplits", spec := "propSplits", plainKeys := false, apart := false, narrowed := true }
def PropSplitsUptoSaid : Prop := propSplitsUptoRow.holds Try.pinned (OpenSpec.upto propSplitsSpec)

/-- 'stanzalaw02.PropLimits', WHERE WHAT IT READS IS OF BULK AT MOST 1048576: true; the input reads as it did. -/
def propLimitsUptoRow : OpenClaim := { program := "ytcgbndojpcaboaa", sum := "efdeb8dc21f872dbf84f2d6966a1fe3b238aba78130033a5ae04eb03cfb6b629", func := "stanza/stanzalaw02.PropLimits", spec := "propLimits", plainKeys := false, apart := false, narrowed := true }
def PropLimitsUptoSaid : Prop := propLimitsUptoRow.holds Try.pinned (OpenSpec.upto propLimitsSpec)

/-- 'stanzalaw02.PropEach', WHERE WHAT IT READS IS OF BULK AT MOST 1048576: true; the input reads as it did. -/
def propEachUptoRow : OpenClaim := { program := "ytcgbndojpcaboaa", sum := "efdeb8dc21f872dbf84f2d6966a1fe3b238aba78130033a5ae04eb03cfb6b629", func := "stanza/stanzalaw02.PropEach", spec := "propEach", plainKeys := false, apart := false, narrowed := true }
def PropEachUptoSaid : Prop := propEachUptoRow.holds Try.pinned (OpenSpec.upto propEachSpec)

end Rows
end Go.Proofs.Ytcgbndojpcaboaa
