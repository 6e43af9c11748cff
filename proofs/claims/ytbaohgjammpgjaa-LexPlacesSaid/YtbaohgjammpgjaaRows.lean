/-
  No cell of these rows narrows 'for every input' (looked for: loops, veiled, ifaces, maps, wideKeys, modest, calm, conditions, laid).
  DERIVED. THE GIVEN ROWS OF THIS SEAT. 5 by the template 'for every input the law returns true; each argument reads behind the call as it read before'; 0 by the template 'total and deterministic' (their statements: YtbaohgjammpgjaaTotals.lean).
  GIVEN WITH THE SEED: the statements are not yours to turn. If you find one false, say at which input.
  Laid BY PROGRAM, IN A SANDBOX (cutbox-rows.mjs): the forced cells as the released guide's own fill.sh prints them over the translation d00fd29a81632e0c… (all of the seat's roots in one cut). By AI agents, Wed Nov 11 2026. No macro, syntax, notation, axiom, sorry.
-/
import Derived.Test.YtbaohgjammpgjaaChecked
import GoSem.Claim
import GoSem.ClaimJoined
import GoSem.ClaimMapViews
import Derived.JoinedTies
import Derived.KernelRfl
namespace Go.Proofs.Ytbaohgjammpgjaa
/- THE CELL 'sum', in the pinned program and in every row, IS THE sha256 OF THE DUMP (.gsa) THAT YtbaohgjammpgjaaProg.lean LOADS. Nothing in Lean hashes anything: it is a label: what it is worth is what the hold of that sum in a sandbox is worth. -/
noncomputable def Try.pinned : Pinned := { name := "ytbaohgjammpgjaa", sum := "d00fd29a81632e0c6ddc12b8fa6441226dbc9af623b3810770f154e8b6b4973b", checked := Try.checked }
namespace Rows
def none {H : Type} : Left H := { results := [], args := [] }

/-- 'prompterlaw04.LexSplits': WHATEVER THE INPUT: true; the input reads as it did. -/
def lexSplitsSpec : ChangeSpec := { name := "lexSplits", fn := fun _ => fun
  | [d1, d2, d3] => { results := [.lit (.bool true)], args := [d1, d2, d3] }
  | _ => none }
def lexSplitsRow : OpenClaim := { program := "ytbaohgjammpgjaa", sum := "d00fd29a81632e0c6ddc12b8fa6441226dbc9af623b3810770f154e8b6b4973b", func := "prompter/prompterlaw04.LexSplits", spec := "lexSplits", apart := false }
def LexSplitsSaid : Prop := lexSplitsRow.holds Try.pinned (OpenSpec.ofChange lexSplitsSpec)

/-- ITS FALSE NEIGHBOUR: 'it returns false'. Refute it at one input. -/
def lexSplitsWrong : ChangeSpec := { name := "lexSplits", fn := fun _ => fun
  | [d1, d2, d3] => { results := [.lit (.bool false)], args := [d1, d2, d3] }
  | _ => none }
def LexSplitsWrongFalsely : Prop := lexSplitsRow.holds Try.pinned (OpenSpec.ofChange lexSplitsWrong)

/-- 'prompterlaw04.LexJoins': WHATEVER THE INPUT: true; the input reads as it did. -/
def lexJoinsSpec : ChangeSpec := { name := "lexJoins", fn := fun _ => fun
  | [d1, d2] => { results := [.lit (.bool true)], args := [d1, d2] }
  | _ => none }
def lexJoinsRow : OpenClaim := { program := "ytbaohgjammpgjaa", sum := "d00fd29a81632e0c6ddc12b8fa6441226dbc9af623b3810770f154e8b6b4973b", func := "prompter/prompterlaw04.LexJoins", spec := "lexJoins", apart := false }
def LexJoinsSaid : Prop := lexJoinsRow.holds Try.pinned (OpenSpec.ofChange lexJoinsSpec)

/-- ITS FALSE NEIGHBOUR: 'it returns false'. Refute it at one input. -/
def lexJoinsWrong : ChangeSpec := { name := "lexJoins", fn := fun _ => fun
  | [d1, d2] => { results := [.lit (.bool false)], args := [d1, d2] }
  | _ => none }
def LexJoinsWrongFalsely : Prop := lexJoinsRow.holds Try.pinned (OpenSpec.ofChange lexJoinsWrong)

/-- 'prompterlaw04.LexBytes': WHATEVER THE INPUT: true; the input reads as it did. -/
def lexBytesSpec : ChangeSpec := { name := "lexBytes", fn := fun _ => fun
  | [d1, d2, d3] => { results := [.lit (.bool true)], args := [d1, d2, d3] }
  | _ => none }
def lexBytesRow : OpenClaim := { program := "ytbaohgjammpgjaa", sum := "d00fd29a81632e0c6ddc12b8fa6441226dbc9af623b3810770f154e8b6b4973b", func := "prompter/prompterlaw04.LexBytes", spec := "lexBytes", apart := false }
def LexBytesSaid : Prop := lexBytesRow.holds Try.pinned (OpenSpec.ofChange lexBytesSpec)

/-- ITS FALSE NEIGHBOUR: 'it returns false'. Refute it at one input. -/
def lexBytesWrong : ChangeSpec := { name := "lexBytes", fn := fun _ => fun
  | [d1, d2, d3] => { results := [.lit (.bool false)], args := [d1, d2, d3] }
  | _ => none }
def LexBytesWrongFalsely : Prop := lexBytesRow.holds Try.pinned (OpenSpec.ofChange lexBytesWrong)

/-- 'prompterlaw04.LexComments': WHATEVER THE INPUT: true; the input reads as it did. -/
def lexCommentsSpec : ChangeSpec := { name := "lexComments", fn := fun _ => fun
  | [d1, d2, d3] => { results := [.lit (.bool true)], args := [d1, d2, d3] }
  | _ => none }
def lexCommentsRow : OpenClaim := { program := "ytbaohgjammpgjaa", sum := "d00fd29a81632e0c6ddc12b8fa6441226dbc9af623b3810770f154e8b6b4973b", func := "prompter/prompterlaw04.LexComments", spec := "lexComments", apart := false }
def LexCommentsSaid : Prop := lexCommentsRow.holds Try.pinned (OpenSpec.ofChange lexCommentsSpec)

/-- ITS FALSE NEIGHBOUR: 'it returns false'. Refute it at one input. -/
def lexCommentsWrong : ChangeSpec := { name := "lexComments", fn := fun _ => fun
  | [d1, d2, d3] => { results := [.lit (.bool false)], args := [d1, d2, d3] }
  | _ => none }
def LexCommentsWrongFalsely : Prop := lexCommentsRow.holds Try.pinned (OpenSpec.ofChange lexCommentsWrong)

/-- 'prompterlaw04.LexPlaces': WHATEVER THE INPUT: true; the input reads as it did. -/
def lexPlacesSpec : ChangeSpec := { name := "lexPlaces", fn := fun _ => fun
  | [d] => { results := [.lit (.bool true)], args := [d] }
  | _ => none }
def lexPlacesRow : OpenClaim := { program := "ytbaohgjammpgjaa", sum := "d00fd29a81632e0c6ddc12b8fa6441226dbc9af623b3810770f154e8b6b4973b", func := "prompter/prompterlaw04.LexPlaces", spec := "lexPlaces", apart := false }
def LexPlacesSaid : Prop := lexPlacesRow.holds Try.pinned (OpenSpec.ofChange lexPlacesSpec)

/-- ITS FALSE NEIGHBOUR: 'it returns false'. Refute it at one input. -/
def lexPlacesWrong : ChangeSpec := { name := "lexPlaces", fn := fun _ => fun
  | [d] => { results := [.lit (.bool false)], args := [d] }
  | _ => none }
def LexPlacesWrongFalsely : Prop := lexPlacesRow.holds Try.pinned (OpenSpec.ofChange lexPlacesWrong)

/- THE SECOND FORM. 'bulk': how many values and letters a reading holds, each counted each time it is reached (what is shared counts as often as it is met; a slice's spare places count too). A statement '..UptoSaid' is the law's where the arguments, and the package variables that the reading takes, are together of bulk at most 1048576: NARROWER than '..Said'. Prove '..Said' where nothing that the law and all that it calls make is longer than what came in: it says more and counts as full. Else prove '..UptoSaid'. A law counts once. -/
mutual
def uptoBulk {H : Type} : DataW H → Nat
  | .lit (.string bytes) => bytes.length + 1
  | .lit _ => 1
  | .nil => 1
  | .ptr d => uptoBulk d + 1
  | .slice elems spare => uptoBulkAll elems + uptoBulkAll spare + 1
  | .agg parts => uptoBulkAll parts + 1
  | .iface _ d => uptoBulk d + 1
  | .map entries => uptoBulkEntries entries + 1
  | .held _ => 1
def uptoBulkAll {H : Type} : List (DataW H) → Nat
  | [] => 0
  | d :: r => uptoBulk d + uptoBulkAll r
def uptoBulkEntries {H : Type} : List (Lit × DataW H) → Nat
  | [] => 0
  | x :: r => uptoBulkEntry x + uptoBulkEntries r
def uptoBulkEntry {H : Type} : Lit × DataW H → Nat
  | (.string bytes, d) => bytes.length + uptoBulk d + 1
  | (_, d) => uptoBulk d + 1
 end
def uptoSmall : (H : Type) → List (DataW H) → Bool := fun _ ds => decide (uptoBulkAll ds ≤ 1048576)
def OpenSpec.upto (s : _root_.Go.ChangeSpec) : _root_.Go.OpenSpec := { _root_.Go.OpenSpec.ofChange s with cond := some uptoSmall }

/-- 'prompterlaw04.LexSplits', WHERE WHAT IT READS IS OF BULK AT MOST 1048576: true; the input reads as it did. -/
def lexSplitsUptoRow : OpenClaim := { program := "ytbaohgjammpgjaa", sum := "d00fd29a81632e0c6ddc12b8fa6441226dbc9af623b3810770f154e8b6b4973b", func := "prompter/prompterlaw04.LexSplits", spec := "lexSplits", apart := false, narrowed := true }
def LexSplitsUptoSaid : Prop := lexSplitsUptoRow.holds Try.pinned (OpenSpec.upto lexSplitsSpec)

/-- 'prompterlaw04.LexJoins', WHERE WHAT IT READS IS OF BULK AT MOST 1048576: true; the input reads as it did. -/
def lexJoinsUptoRow : OpenClaim := { program := "ytbaohgjammpgjaa", sum := "d00fd29a81632e0c6ddc12b8fa6441226dbc9af623b3810770f154e8b6b4973b", func := "prompter/prompterlaw04.LexJoins", spec := "lexJoins", apart := false, narrowed := true }
def LexJoinsUptoSaid : Prop := lexJoinsUptoRow.holds Try.pinned (OpenSpec.upto lexJoinsSpec)

/-- 'prompterlaw04.LexBytes', WHERE WHAT IT READS IS OF BULK AT MOST 1048576: true; the input reads as it did. -/
def lexBytesUptoRow : OpenClaim := { program := "ytbaohgjammpgjaa", sum := "d00fd29a81632e0c6ddc12b8fa6441226dbc9af623b3810770f154e8b6b4973b", func := "prompter/prompterlaw04.LexBytes", spec := "lexBytes", apart := false, narrowed := true }
def LexBytesUptoSaid : Prop := lexBytesUptoRow.holds Try.pinned (OpenSpec.upto lexBytesSpec)

/-- 'prompterlaw04.LexComments', WHERE WHAT IT READS IS OF BULK AT MOST 1048576: true; the input reads as it did. -/
def lexCommentsUptoRow : OpenClaim := { program := "ytbaohgjammpgjaa", sum := "d00fd29a81632e0c6ddc12b8fa6441226dbc9af623b3810770f154e8b6b4973b", func := "prompter/prompterlaw04.LexComments", spec := "lexComments", apart := false, narrowed := true }
def LexCommentsUptoSaid : Prop := lexCommentsUptoRow.holds Try.pinned (OpenSpec.upto lexCommentsSpec)

/-- 'prompterlaw04.LexPlaces', WHERE WHAT IT READS IS OF BULK AT MOST 1048576: true; the input reads as it did. -/
def lexPlacesUptoRow : OpenClaim := { program := "ytbaohgjammpgjaa", sum := "d00fd29a81632e0c6ddc12b8fa6441226dbc9af623b3810770f154e8b6b4973b", func := "prompter/prompterlaw04.LexPlaces", spec := "lexPlaces", apart := false, narrowed := true }
def LexPlacesUptoSaid : Prop := lexPlacesUptoRow.holds Try.pinned (OpenSpec.upto lexPlacesSpec)

end Rows
end Go.Proofs.Ytbaohgjammpgjaa
