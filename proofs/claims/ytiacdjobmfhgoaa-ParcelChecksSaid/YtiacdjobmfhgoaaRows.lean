/-
  No cell of these rows narrows 'for every input' (looked for: loops, veiled, ifaces, maps, wideKeys, modest, calm, conditions, laid).
  DERIVED. THE GIVEN ROWS OF THIS SEAT. 5 by the template 'for every input the law returns true; each argument reads behind the call as it read before'; 0 by the template 'total and deterministic' (their statements: YtiacdjobmfhgoaaTotals.lean).
  GIVEN WITH THE SEED: the statements are not yours to turn. If you find one false, say at which input.
  Laid BY PROGRAM, IN A SANDBOX (cutbox-rows.mjs): the forced cells as the released guide's own fill.sh prints them over the translation 537d291973b23482… (all of the seat's roots in one cut). By AI agents, Wed Nov 11 2026. No macro, syntax, notation, axiom, sorry.
-/
import Derived.Test.YtiacdjobmfhgoaaChecked
import GoSem.Claim
import GoSem.ClaimJoined
import GoSem.ClaimMapViews
import Derived.JoinedTies
import Derived.KernelRfl
namespace Go.Proofs.Ytiacdjobmfhgoaa
/- THE CELL 'sum', in the pinned program and in every row, IS THE sha256 OF THE DUMP (.gsa) THAT YtiacdjobmfhgoaaProg.lean LOADS. Nothing in Lean hashes anything: it is a label: what it is worth is what the hold of that sum in a sandbox is worth. -/
noncomputable def Try.pinned : Pinned := { name := "ytiacdjobmfhgoaa", sum := "537d291973b2348275906185afd390b96b02268831c2cd44585ed99659c43916", checked := Try.checked }
namespace Rows
def none {H : Type} : Left H := { results := [], args := [] }

/-- 'prompterlaw18.ParcelCuts': WHATEVER THE INPUT: true; the input reads as it did. -/
def parcelCutsSpec : ChangeSpec := { name := "parcelCuts", fn := fun _ => fun
  | [d1, d2, d3, d4, d5] => { results := [.lit (.bool true)], args := [d1, d2, d3, d4, d5] }
  | _ => none }
def parcelCutsRow : OpenClaim := { program := "ytiacdjobmfhgoaa", sum := "537d291973b2348275906185afd390b96b02268831c2cd44585ed99659c43916", func := "prompter/prompterlaw18.ParcelCuts", spec := "parcelCuts", plainKeys := false, apart := false }
def ParcelCutsSaid : Prop := parcelCutsRow.holds Try.pinned (OpenSpec.ofChange parcelCutsSpec)

/-- ITS FALSE NEIGHBOUR: 'it returns false'. Refute it at one input. -/
def parcelCutsWrong : ChangeSpec := { name := "parcelCuts", fn := fun _ => fun
  | [d1, d2, d3, d4, d5] => { results := [.lit (.bool false)], args := [d1, d2, d3, d4, d5] }
  | _ => none }
def ParcelCutsWrongFalsely : Prop := parcelCutsRow.holds Try.pinned (OpenSpec.ofChange parcelCutsWrong)

/-- 'prompterlaw18.ParcelOnce': WHATEVER THE INPUT: true; the input reads as it did. -/
def parcelOnceSpec : ChangeSpec := { name := "parcelOnce", fn := fun _ => fun
  | [d1, d2, d3, d4] => { results := [.lit (.bool true)], args := [d1, d2, d3, d4] }
  | _ => none }
def parcelOnceRow : OpenClaim := { program := "ytiacdjobmfhgoaa", sum := "537d291973b2348275906185afd390b96b02268831c2cd44585ed99659c43916", func := "prompter/prompterlaw18.ParcelOnce", spec := "parcelOnce", plainKeys := false, apart := false }
def ParcelOnceSaid : Prop := parcelOnceRow.holds Try.pinned (OpenSpec.ofChange parcelOnceSpec)

/-- ITS FALSE NEIGHBOUR: 'it returns false'. Refute it at one input. -/
def parcelOnceWrong : ChangeSpec := { name := "parcelOnce", fn := fun _ => fun
  | [d1, d2, d3, d4] => { results := [.lit (.bool false)], args := [d1, d2, d3, d4] }
  | _ => none }
def ParcelOnceWrongFalsely : Prop := parcelOnceRow.holds Try.pinned (OpenSpec.ofChange parcelOnceWrong)

/-- 'prompterlaw18.ParcelChecks': WHATEVER THE INPUT: true; the input reads as it did. -/
def parcelChecksSpec : ChangeSpec := { name := "parcelChecks", fn := fun _ => fun
  | [d1, d2, d3] => { results := [.lit (.bool true)], args := [d1, d2, d3] }
  | _ => none }
def parcelChecksRow : OpenClaim := { program := "ytiacdjobmfhgoaa", sum := "537d291973b2348275906185afd390b96b02268831c2cd44585ed99659c43916", func := "prompter/prompterlaw18.ParcelChecks", spec := "parcelChecks", plainKeys := false, apart := false }
def ParcelChecksSaid : Prop := parcelChecksRow.holds Try.pinned (OpenSpec.ofChange parcelChecksSpec)

/-- ITS FALSE NEIGHBOUR: 'it returns false'. Refute it at one input. -/
def parcelChecksWrong : ChangeSpec := { name := "parcelChecks", fn := fun _ => fun
  | [d1, d2, d3] => { results := [.lit (.bool false)], args := [d1, d2, d3] }
  | _ => none }
def ParcelChecksWrongFalsely : Prop := parcelChecksRow.holds Try.pinned (OpenSpec.ofChange parcelChecksWrong)

/-- 'prompterlaw18.ParcelBack': WHATEVER THE INPUT: true; the input reads as it did. -/
def parcelBackSpec : ChangeSpec := { name := "parcelBack", fn := fun _ => fun
  | [d1, d2, d3] => { results := [.lit (.bool true)], args := [d1, d2, d3] }
  | _ => none }
def parcelBackRow : OpenClaim := { program := "ytiacdjobmfhgoaa", sum := "537d291973b2348275906185afd390b96b02268831c2cd44585ed99659c43916", func := "prompter/prompterlaw18.ParcelBack", spec := "parcelBack", plainKeys := false, apart := false }
def ParcelBackSaid : Prop := parcelBackRow.holds Try.pinned (OpenSpec.ofChange parcelBackSpec)

/-- ITS FALSE NEIGHBOUR: 'it returns false'. Refute it at one input. -/
def parcelBackWrong : ChangeSpec := { name := "parcelBack", fn := fun _ => fun
  | [d1, d2, d3] => { results := [.lit (.bool false)], args := [d1, d2, d3] }
  | _ => none }
def ParcelBackWrongFalsely : Prop := parcelBackRow.holds Try.pinned (OpenSpec.ofChange parcelBackWrong)

/-- 'prompterlaw18.ParcelAny': WHATEVER THE INPUT: true; the input reads as it did. -/
def parcelAnySpec : ChangeSpec := { name := "parcelAny", fn := fun _ => fun
  | [d1, d2, d3, d4] => { results := [.lit (.bool true)], args := [d1, d2, d3, d4] }
  | _ => none }
def parcelAnyRow : OpenClaim := { program := "ytiacdjobmfhgoaa", sum := "537d291973b2348275906185afd390b96b02268831c2cd44585ed99659c43916", func := "prompter/prompterlaw18.ParcelAny", spec := "parcelAny", plainKeys := false, apart := false }
def ParcelAnySaid : Prop := parcelAnyRow.holds Try.pinned (OpenSpec.ofChange parcelAnySpec)

/-- ITS FALSE NEIGHBOUR: 'it returns false'. Refute it at one input. -/
def parcelAnyWrong : ChangeSpec := { name := "parcelAny", fn := fun _ => fun
  | [d1, d2, d3, d4] => { results := [.lit (.bool false)], args := [d1, d2, d3, d4] }
  | _ => none }
def ParcelAnyWrongFalsely : Prop := parcelAnyRow.holds Try.pinned (OpenSpec.ofChange parcelAnyWrong)

/- THE SECOND FORM. 'bulk': how many values and letters a reading holds, each counted each time it is reached (what is shared counts as often as it is met; a slice's spare places count too). A statement '..UptoSaid' is the law's where the arguments, and the package variables that the reading takes, are together of bulk at most 1048576: NARROWER than '..Said'. Prove '..Said' where nothing that the law and all that it calls make is longer than what came in: it says more and counts as full. Else prove '..UptoSaid'. A law counts once. -/
mutual
def uptoBulk {H : Type} : DataW H → Nat
  | .lit (.string bytes) => bytes.length + 1
  | .lit _ => 1
  | .nil => 1
  | .ptr d => uptoBulk d + 1
  | .slice elems spare => uptoBulkAll elems + uptoBulkAll spare + 1
  | .agg parts => uptoBulkAll parts + 1
  | .iface _ d => uptoBulk d + 1
  | .map entries => uptoBulkEntries entries + 1
  | .held _ => 1
def uptoBulkAll {H : Type} : List (DataW H) → Nat
  | [] => 0
  | d :: r => uptoBulk d + uptoBulkAll r
def uptoBulkEntries {H : Type} : List (Lit × DataW H) → Nat
  | [] => 0
  | x :: r => uptoBulkEntry x + uptoBulkEntries r
def uptoBulkEntry {H : Type} : Lit × DataW H → Nat
  | (.string bytes, d) => bytes.length + uptoBulk d + 1
  | (_, d) => uptoBulk d + 1
 end
def uptoSmall : (H : Type) → List (DataW H) → Bool := fun _ ds => decide (uptoBulkAll ds ≤ 1048576)
def OpenSpec.upto (s : _root_.Go.ChangeSpec) : _root_.Go.OpenSpec := { _root_.Go.OpenSpec.ofChange s with cond := some uptoSmall }

/-- 'prompterlaw18.ParcelCuts', WHERE WHAT IT READS IS OF BULK AT MOST 1048576: true; the input reads as it did. -/
def parcelCutsUptoRow : OpenClaim := { program := "ytiacdjobmfhgoaa", sum := "537d291973b2348275906185afd390b96b02268831c2cd44585ed99659c43916", func := "prompter/prompterlaw18.ParcelCuts", spec := "parcelCuts", plainKeys := false, apart := false, narrowed := true }
def ParcelCutsUptoSaid : Prop := parcelCutsUptoRow.holds Try.pinned (OpenSpec.upto parcelCutsSpec)

/-- 'prompterlaw18.ParcelOnce', WHERE WHAT IT READS IS OF BULK AT MOST 1048576: true; the input reads as it did. -/
def parcelOnceUptoRow : OpenClaim := { program := "ytiacdjobmfhgoaa", sum := "537d291973b2348275906185afd390b96b02268831c2cd44585ed99659c43916", func := "prompter/prompterlaw18.ParcelOnce", spec := "parcelOnce", plainKeys := false, apart := false, narrowed := true }
def ParcelOnceUptoSaid : Prop := parcelOnceUptoRow.holds Try.pinned (OpenSpec.upto parcelOnceSpec)

/-- 'prompterlaw18.ParcelChecks', WHERE WHAT IT READS IS OF BULK AT MOST 1048576: true; the input reads as it did. -/
def parcelChecksUptoRow : OpenClaim := { program := "ytiacdjobmfhgoaa", sum := "537d291973b2348275906185afd390b96b02268831c2cd44585ed99659c43916", func := "prompter/prompterlaw18.ParcelChecks", spec := "parcelChecks", plainKeys := false, apart := false, narrowed := true }
def ParcelChecksUptoSaid : Prop := parcelChecksUptoRow.holds Try.pinned (OpenSpec.upto parcelChecksSpec)

/-- 'prompterlaw18.ParcelBack', WHERE WHAT IT READS IS OF BULK AT MOST 1048576: true; the input reads as it did. -/
def parcelBackUptoRow : OpenClaim := { program := "ytiacdjobmfhgoaa", sum := "537d291973b2348275906185afd390b96b02268831c2cd44585ed99659c43916", func := "prompter/prompterlaw18.ParcelBack", spec := "parcelBack", plainKeys := false, apart := false, narrowed := true }
def ParcelBackUptoSaid : Prop := parcelBackUptoRow.holds Try.pinned (OpenSpec.upto parcelBackSpec)

/-- 'prompterlaw18.ParcelAny', WHERE WHAT IT READS IS OF BULK AT MOST 1048576: true; the input reads as it did. -/
def parcelAnyUptoRow : OpenClaim := { program := "ytiacdjobmfhgoaa", sum := "537d291973b2348275906185afd390b96b02268831c2cd44585ed99659c43916", func := "prompter/prompterlaw18.ParcelAny", spec := "parcelAny", plainKeys := false, apart := false, narrowed := true }
def ParcelAnyUptoSaid : Prop := parcelAnyUptoRow.holds Try.pinned (OpenSpec.upto parcelAnySpec)

end Rows
end Go.Proofs.Ytiacdjobmfhgoaa
