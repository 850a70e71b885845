/-
  No cell of these rows narrows 'for every input' (looked for: loops, veiled, ifaces, maps, wideKeys, modest, calm, conditions, laid).
  DERIVED. THE GIVEN ROWS OF THIS SEAT. 9 by the template 'for every input the law returns true; each argument reads behind the call as it read before'; 0 by the template 'total and deterministic' (their statements: YtigajcipjklknaaTotals.lean).
  GIVEN WITH THE SEED: the statements are not yours to turn. If you find one false, say at which input.
  Laid BY PROGRAM, IN A SANDBOX (cutbox-rows.mjs): the forced cells as the released guide's own fill.sh prints them over the translation 9049d5f93d4e49ac… (all of the seat's roots in one cut). By AI agents, Wed Nov 11 2026. No macro, syntax, notation, axiom, sorry.
-/
import Derived.Test.YtigajcipjklknaaChecked
import GoSem.Claim
import GoSem.ClaimJoined
import GoSem.ClaimMapViews
import Derived.JoinedTies
import Derived.KernelRfl
namespace Go.Proofs.Ytigajcipjklknaa
/- THE CELL 'sum', in the pinned program and in every row, IS THE sha256 OF THE DUMP (.gsa) THAT YtigajcipjklknaaProg.lean LOADS. Nothing in Lean hashes anything: it is a label: what it is worth is what the hold of that sum in a sandbox is worth. -/
noncomputable def Try.pinned : Pinned := { name := "ytigajcipjklknaa", sum := "9049d5f93d4e49acfb738b423c8c3fe4018918793f79ce73f497beb51ffdb320", checked := Try.checked }
namespace Rows
def none {H : Type} : Left H := { results := [], args := [] }

/-- 'stanzalaw10.CellsMakes': WHATEVER THE INPUT: true; the input reads as it did. -/
def cellsMakesSpec : ChangeSpec := { name := "cellsMakes", fn := fun _ => fun
  | [d1, d2, d3, d4] => { results := [.lit (.bool true)], args := [d1, d2, d3, d4] }
  | _ => none }
def cellsMakesRow : OpenClaim := { program := "ytigajcipjklknaa", sum := "9049d5f93d4e49acfb738b423c8c3fe4018918793f79ce73f497beb51ffdb320", func := "stanza/stanzalaw10.CellsMakes", spec := "cellsMakes", plainKeys := false, apart := false }
def CellsMakesSaid : Prop := cellsMakesRow.holds Try.pinned (OpenSpec.ofChange cellsMakesSpec)

/-- ITS FALSE NEIGHBOUR: 'it returns false'. Refute it at one input. -/
def cellsMakesWrong : ChangeSpec := { name := "cellsMakes", fn := fun _ => fun
  | [d1, d2, d3, d4] => { results := [.lit (.bool false)], args := [d1, d2, d3, d4] }
  | _ => none }
def CellsMakesWrongFalsely : Prop := cellsMakesRow.holds Try.pinned (OpenSpec.ofChange cellsMakesWrong)

/-- 'stanzalaw10.CellsWhole': WHATEVER THE INPUT: true; the input reads as it did. -/
def cellsWholeSpec : ChangeSpec := { name := "cellsWhole", fn := fun _ => fun
  | [d1, d2, d3] => { results := [.lit (.bool true)], args := [d1, d2, d3] }
  | _ => none }
def cellsWholeRow : OpenClaim := { program := "ytigajcipjklknaa", sum := "9049d5f93d4e49acfb738b423c8c3fe4018918793f79ce73f497beb51ffdb320", func := "stanza/stanzalaw10.CellsWhole", spec := "cellsWhole", plainKeys := false, apart := false }
def CellsWholeSaid : Prop := cellsWholeRow.holds Try.pinned (OpenSpec.ofChange cellsWholeSpec)

/-- ITS FALSE NEIGHBOUR: 'it returns false'. Refute it at one input. -/
def cellsWholeWrong : ChangeSpec := { name := "cellsWhole", fn := fun _ => fun
  | [d1, d2, d3] => { results := [.lit (.bool false)], args := [d1, d2, d3] }
  | _ => none }
def CellsWholeWrongFalsely : Prop := cellsWholeRow.holds Try.pinned (OpenSpec.ofChange cellsWholeWrong)

/-- 'stanzalaw10.CellsFiner': WHATEVER THE INPUT: true; the input reads as it did. -/
def cellsFinerSpec : ChangeSpec := { name := "cellsFiner", fn := fun _ => fun
  | [d1, d2, d3, d4] => { results := [.lit (.bool true)], args := [d1, d2, d3, d4] }
  | _ => none }
def cellsFinerRow : OpenClaim := { program := "ytigajcipjklknaa", sum := "9049d5f93d4e49acfb738b423c8c3fe4018918793f79ce73f497beb51ffdb320", func := "stanza/stanzalaw10.CellsFiner", spec := "cellsFiner", plainKeys := false, apart := false }
def CellsFinerSaid : Prop := cellsFinerRow.holds Try.pinned (OpenSpec.ofChange cellsFinerSpec)

/-- ITS FALSE NEIGHBOUR: 'it returns false'. Refute it at one input. -/
def cellsFinerWrong : ChangeSpec := { name := "cellsFiner", fn := fun _ => fun
  | [d1, d2, d3, d4] => { results := [.lit (.bool false)], args := [d1, d2, d3, d4] }
  | _ => none }
def CellsFinerWrongFalsely : Prop := cellsFinerRow.holds Try.pinned (OpenSpec.ofChange cellsFinerWrong)

/-- 'stanzalaw10.CellsAlone': WHATEVER THE INPUT: true; the input reads as it did. -/
def cellsAloneSpec : ChangeSpec := { name := "cellsAlone", fn := fun _ => fun
  | [d1, d2] => { results := [.lit (.bool true)], args := [d1, d2] }
  | _ => none }
def cellsAloneRow : OpenClaim := { program := "ytigajcipjklknaa", sum := "9049d5f93d4e49acfb738b423c8c3fe4018918793f79ce73f497beb51ffdb320", func := "stanza/stanzalaw10.CellsAlone", spec := "cellsAlone", plainKeys := false, apart := false }
def CellsAloneSaid : Prop := cellsAloneRow.holds Try.pinned (OpenSpec.ofChange cellsAloneSpec)

/-- ITS FALSE NEIGHBOUR: 'it returns false'. Refute it at one input. -/
def cellsAloneWrong : ChangeSpec := { name := "cellsAlone", fn := fun _ => fun
  | [d1, d2] => { results := [.lit (.bool false)], args := [d1, d2] }
  | _ => none }
def CellsAloneWrongFalsely : Prop := cellsAloneRow.holds Try.pinned (OpenSpec.ofChange cellsAloneWrong)

/-- 'stanzalaw11.ItemsMakes': WHATEVER THE INPUT: true; the input reads as it did. -/
def itemsMakesSpec : ChangeSpec := { name := "itemsMakes", fn := fun _ => fun
  | [d] => { results := [.lit (.bool true)], args := [d] }
  | _ => none }
def itemsMakesRow : OpenClaim := { program := "ytigajcipjklknaa", sum := "9049d5f93d4e49acfb738b423c8c3fe4018918793f79ce73f497beb51ffdb320", func := "stanza/stanzalaw11.ItemsMakes", spec := "itemsMakes", plainKeys := false, apart := false }
def ItemsMakesSaid : Prop := itemsMakesRow.holds Try.pinned (OpenSpec.ofChange itemsMakesSpec)

/-- ITS FALSE NEIGHBOUR: 'it returns false'. Refute it at one input. -/
def itemsMakesWrong : ChangeSpec := { name := "itemsMakes", fn := fun _ => fun
  | [d] => { results := [.lit (.bool false)], args := [d] }
  | _ => none }
def ItemsMakesWrongFalsely : Prop := itemsMakesRow.holds Try.pinned (OpenSpec.ofChange itemsMakesWrong)

/-- 'stanzalaw11.ItemsChecks': WHATEVER THE INPUT: true; the input reads as it did. -/
def itemsChecksSpec : ChangeSpec := { name := "itemsChecks", fn := fun _ => fun
  | [d1, d2, d3, d4, d5, d6] => { results := [.lit (.bool true)], args := [d1, d2, d3, d4, d5, d6] }
  | _ => none }
def itemsChecksRow : OpenClaim := { program := "ytigajcipjklknaa", sum := "9049d5f93d4e49acfb738b423c8c3fe4018918793f79ce73f497beb51ffdb320", func := "stanza/stanzalaw11.ItemsChecks", spec := "itemsChecks", plainKeys := false, apart := false }
def ItemsChecksSaid : Prop := itemsChecksRow.holds Try.pinned (OpenSpec.ofChange itemsChecksSpec)

/-- ITS FALSE NEIGHBOUR: 'it returns false'. Refute it at one input. -/
def itemsChecksWrong : ChangeSpec := { name := "itemsChecks", fn := fun _ => fun
  | [d1, d2, d3, d4, d5, d6] => { results := [.lit (.bool false)], args := [d1, d2, d3, d4, d5, d6] }
  | _ => none }
def ItemsChecksWrongFalsely : Prop := itemsChecksRow.holds Try.pinned (OpenSpec.ofChange itemsChecksWrong)

/-- 'stanzalaw11.ItemsHyphens': WHATEVER THE INPUT: true; the input reads as it did. -/
def itemsHyphensSpec : ChangeSpec := { name := "itemsHyphens", fn := fun _ => fun
  | [d] => { results := [.lit (.bool true)], args := [d] }
  | _ => none }
def itemsHyphensRow : OpenClaim := { program := "ytigajcipjklknaa", sum := "9049d5f93d4e49acfb738b423c8c3fe4018918793f79ce73f497beb51ffdb320", func := "stanza/stanzalaw11.ItemsHyphens", spec := "itemsHyphens", plainKeys := false, apart := false }
def ItemsHyphensSaid : Prop := itemsHyphensRow.holds Try.pinned (OpenSpec.ofChange itemsHyphensSpec)

/-- ITS FALSE NEIGHBOUR: 'it returns false'. Refute it at one input. -/
def itemsHyphensWrong : ChangeSpec := { name := "itemsHyphens", fn := fun _ => fun
  | [d] => { results := [.lit (.bool false)], args := [d] }
  | _ => none }
def ItemsHyphensWrongFalsely : Prop := itemsHyphensRow.holds Try.pinned (OpenSpec.ofChange itemsHyphensWrong)

/-- 'stanzalaw11.ItemsRight': WHATEVER THE INPUT: true; the input reads as it did. -/
def itemsRightSpec : ChangeSpec := { name := "itemsRight", fn := fun _ => fun
  | [d] => { results := [.lit (.bool true)], args := [d] }
  | _ => none }
def itemsRightRow : OpenClaim := { program := "ytigajcipjklknaa", sum := "9049d5f93d4e49acfb738b423c8c3fe4018918793f79ce73f497beb51ffdb320", func := "stanza/stanzalaw11.ItemsRight", spec := "itemsRight", plainKeys := false, apart := false }
def ItemsRightSaid : Prop := itemsRightRow.holds Try.pinned (OpenSpec.ofChange itemsRightSpec)

/-- ITS FALSE NEIGHBOUR: 'it returns false'. Refute it at one input. -/
def itemsRightWrong : ChangeSpec := { name := "itemsRight", fn := fun _ => fun
  | [d] => { results := [.lit (.bool false)], args := [d] }
  | _ => none }
def ItemsRightWrongFalsely : Prop := itemsRightRow.holds Try.pinned (OpenSpec.ofChange itemsRightWrong)

/-- 'stanzalaw11.ItemsParts': WHATEVER THE INPUT: true; the input reads as it did. -/
def itemsPartsSpec : ChangeSpec := { name := "itemsParts", fn := fun _ => fun
  | [d] => { results := [.lit (.bool true)], args := [d] }
  | _ => none }
def itemsPartsRow : OpenClaim := { program := "ytigajcipjklknaa", sum := "9049d5f93d4e49acfb738b423c8c3fe4018918793f79ce73f497beb51ffdb320", func := "stanza/stanzalaw11.ItemsParts", spec := "itemsParts", plainKeys := false, apart := false }
def ItemsPartsSaid : Prop := itemsPartsRow.holds Try.pinned (OpenSpec.ofChange itemsPartsSpec)

/-- ITS FALSE NEIGHBOUR: 'it returns false'. Refute it at one input. -/
def itemsPartsWrong : ChangeSpec := { name := "itemsParts", fn := fun _ => fun
  | [d] => { results := [.lit (.bool false)], args := [d] }
  | _ => none }
def ItemsPartsWrongFalsely : Prop := itemsPartsRow.holds Try.pinned (OpenSpec.ofChange itemsPartsWrong)

/- THE SECOND FORM. 'bulk': how many values and letters a reading holds, each counted each time it is reached (what is shared counts as often as it is met; a slice's spare places count too). A statement '..UptoSaid' is the law's where the arguments, and the package variables that the reading takes, are together of bulk at most 1048576: NARROWER than '..Said'. Prove '..Said' where nothing that the law and all that it calls make is longer than what came in: it says more and counts as full. Else prove '..UptoSaid'. A law counts once. -/
mutual
def uptoBulk {H : Type} : DataW H → Nat
  | .lit (.string bytes) => bytes.length + 1
  | .lit _ => 1
  | .nil => 1
  | .ptr d => uptoBulk d + 1
  | .slice elems spare => uptoBulkAll elems + uptoBulkAll spare + 1
  | .agg parts => uptoBulkAll parts + 1
  | .iface _ d => uptoBulk d + 1
  | .map entries => uptoBulkEntries entries + 1
  | .held _ => 1
def uptoBulkAll {H : Type} : List (DataW H) → Nat
  | [] => 0
  | d :: r => uptoBulk d + uptoBulkAll r
def uptoBulkEntries {H : Type} : List (Lit × DataW H) → Nat
  | [] => 0
  | x :: r => uptoBulkEntry x + uptoBulkEntries r
def uptoBulkEntry {H : Type} : Lit × DataW H → Nat
  | (.string bytes, d) => bytes.length + uptoBulk d + 1
  | (_, d) => uptoBulk d + 1
 end
def uptoSmall : (H : Type) → List (DataW H) → Bool := fun _ ds => decide (uptoBulkAll ds ≤ 1048576)
def OpenSpec.upto (s : _root_.Go.ChangeSpec) : _root_.Go.OpenSpec := { _root_.Go.OpenSpec.ofChange s with cond := some uptoSmall }

/-- 'stanzalaw10.CellsMakes', WHERE WHAT IT READS IS OF BULK AT MOST 1048576: true; the input reads as it did. -/
def cellsMakesUptoRow : OpenClaim := { program := "ytigajcipjklknaa", sum := "9049d5f93d4e49acfb738b423c8c3fe4018918793f79ce73f497beb51ffdb320", func := "stanza/stanzalaw10.CellsMakes", spec := "cellsMakes", plainKeys := false, apart := false, narrowed := true }
def CellsMakesUptoSaid : Prop := cellsMakesUptoRow.holds Try.pinned (OpenSpec.upto cellsMakesSpec)

/-- 'stanzalaw10.CellsWhole', WHERE WHAT IT READS IS OF BULK AT MOST 1048576: true; the input reads as it did. -/
def cellsWholeUptoRow : OpenClaim := { program := "ytigajcipjklknaa", sum := "9049d5f93d4e49acfb738b423c8c3fe4018918793f79ce73f497beb51ffdb320", func := "stanza/stanzalaw10.CellsWhole", spec := "cellsWhole", plainKeys := false, apart := false, narrowed := true }
def CellsWholeUptoSaid : Prop := cellsWholeUptoRow.holds Try.pinned (OpenSpec.upto cellsWholeSpec)

/-- 'stanzalaw10.CellsFiner', WHERE WHAT IT READS IS OF BULK AT MOST 1048576: true; the input reads as it did. -/
def cellsFinerUptoRow : OpenClaim := { program := "ytigajcipjklknaa", sum := "9049d5f93d4e49acfb738b423c8c3fe4018918793f79ce73f497beb51ffdb320", func := "stanza/stanzalaw10.CellsFiner", spec := "cellsFiner", plainKeys := false, apart := false, narrowed := true }
def CellsFinerUptoSaid : Prop := cellsFinerUptoRow.holds Try.pinned (OpenSpec.upto cellsFinerSpec)

/-- 'stanzalaw10.CellsAlone', WHERE WHAT IT READS IS OF BULK AT MOST 1048576: true; the input reads as it did. -/
def cellsAloneUptoRow : OpenClaim := { program := "ytigajcipjklknaa", sum := "9049d5f93d4e49acfb738b423c8c3fe4018918793f79ce73f497beb51ffdb320", func := "stanza/stanzalaw10.CellsAlone", spec := "cellsAlone", plainKeys := false, apart := false, narrowed := true }
def CellsAloneUptoSaid : Prop := cellsAloneUptoRow.holds Try.pinned (OpenSpec.upto cellsAloneSpec)

/-- 'stanzalaw11.ItemsMakes', WHERE WHAT IT READS IS OF BULK AT MOST 1048576: true; the input reads as it did. -/
def itemsMakesUptoRow : OpenClaim := { program := "ytigajcipjklknaa", sum := "9049d5f93d4e49acfb738b423c8c3fe4018918793f79ce73f497beb51ffdb320", func := "stanza/stanzalaw11.ItemsMakes", spec := "itemsMakes", plainKeys := false, apart := false, narrowed := true }
def ItemsMakesUptoSaid : Prop := itemsMakesUptoRow.holds Try.pinned (OpenSpec.upto itemsMakesSpec)

/-- 'stanzalaw11.ItemsChecks', WHERE WHAT IT READS IS OF BULK AT MOST 1048576: true; the input reads as it did. -/
def itemsChecksUptoRow : OpenClaim := { program := "ytigajcipjklknaa", sum := "9049d5f93d4e49acfb738b423c8c3fe4018918793f79ce73f497beb51ffdb320", func := "stanza/stanzalaw11.ItemsChecks", spec := "itemsChecks", plainKeys := false, apart := false, narrowed := true }
def ItemsChecksUptoSaid : Prop := itemsChecksUptoRow.holds Try.pinned (OpenSpec.upto itemsChecksSpec)

/-- 'stanzalaw11.ItemsHyphens', WHERE WHAT IT READS IS OF BULK AT MOST 1048576: true; the input reads as it did. -/
def itemsHyphensUptoRow : OpenClaim := { program := "ytigajcipjklknaa", sum := "9049d5f93d4e49acfb738b423c8c3fe4018918793f79ce73f497beb51ffdb320", func := "stanza/stanzalaw11.ItemsHyphens", spec := "itemsHyphens", plainKeys := false, apart := false, narrowed := true }
def ItemsHyphensUptoSaid : Prop := itemsHyphensUptoRow.holds Try.pinned (OpenSpec.upto itemsHyphensSpec)

/-- 'stanzalaw11.ItemsRight', WHERE WHAT IT READS IS OF BULK AT MOST 1048576: true; the input reads as it did. -/
def itemsRightUptoRow : OpenClaim := { program := "ytigajcipjklknaa", sum := "9049d5f93d4e49acfb738b423c8c3fe4018918793f79ce73f497beb51ffdb320", func := "stanza/stanzalaw11.ItemsRight", spec := "itemsRight", plainKeys := false, apart := false, narrowed := true }
def ItemsRightUptoSaid : Prop := itemsRightUptoRow.holds Try.pinned (OpenSpec.upto itemsRightSpec)

/-- 'stanzalaw11.ItemsParts', WHERE WHAT IT READS IS OF BULK AT MOST 1048576: true; the input reads as it did. -/
def itemsPartsUptoRow : OpenClaim := { program := "ytigajcipjklknaa", sum := "9049d5f93d4e49acfb738b423c8c3fe4018918793f79ce73f497beb51ffdb320", func := "stanza/stanzalaw11.ItemsParts", spec := "itemsParts", plainKeys := false, apart := false, narrowed := true }
def ItemsPartsUptoSaid : Prop := itemsPartsUptoRow.holds Try.pinned (OpenSpec.upto itemsPartsSpec)

end Rows
end Go.Proofs.Ytigajcipjklknaa
