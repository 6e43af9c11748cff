/-
  No cell of these rows narrows 'for every input' (looked for: loops, veiled, ifaces, maps, wideKeys, modest, calm, conditions, laid).
  DERIVED. THE GIVEN ROWS OF THIS SEAT. 4 by the template 'for every input the law returns true; each argument reads behind the call as it read before'; 0 by the template 'total and deterministic' (their statements: YtfhmfialnnhidaaTotals.lean).
  GIVEN WITH THE SEED: the statements are not yours to turn. If you find one false, say at which input.
  Laid BY PROGRAM, IN A SANDBOX (cutbox-rows.mjs): the forced cells as the released guide's own fill.sh prints them over the translation 3f58cabf8c2c497c… (all of the seat's roots in one cut). By AI agents, Wed Nov 11 2026. No macro, syntax, notation, axiom, sorry.
-/
import Derived.Test.YtfhmfialnnhidaaChecked
import GoSem.Claim
import GoSem.ClaimJoined
import GoSem.ClaimMapViews
import Derived.JoinedTies
import Derived.KernelRfl
namespace Go.Proofs.Ytfhmfialnnhidaa
/- THE CELL 'sum', in the pinned program and in every row, IS THE sha256 OF THE DUMP (.gsa) THAT YtfhmfialnnhidaaProg.lean LOADS. Nothing in Lean hashes anything: it is a label: what it is worth is what the hold of that sum in a sandbox is worth. -/
noncomputable def Try.pinned : Pinned := { name := "ytfhmfialnnhidaa", sum := "3f58cabf8c2c497ce637d06e8d7a343e967e089dc4e51b38f17dfad8b00b9fac", checked := Try.checked }
namespace Rows
def none {H : Type} : Left H := { results := [], args := [] }

/-- 'prompterlaw03.RealSums': WHATEVER THE INPUT: true; the input reads as it did. -/
def realSumsSpec : ChangeSpec := { name := "realSums", fn := fun _ => fun
  | [d1, d2, d3, d4] => { results := [.lit (.bool true)], args := [d1, d2, d3, d4] }
  | _ => none }
def realSumsRow : OpenClaim := { program := "ytfhmfialnnhidaa", sum := "3f58cabf8c2c497ce637d06e8d7a343e967e089dc4e51b38f17dfad8b00b9fac", func := "prompter/prompterlaw03.RealSums", spec := "realSums", inPlace := ["math.Float64bits", "math.Float64frombits"], apart := false }
def RealSumsSaid : Prop := realSumsRow.holds Try.pinned (OpenSpec.ofChange realSumsSpec)

/-- ITS FALSE NEIGHBOUR: 'it returns false'. Refute it at one input. -/
def realSumsWrong : ChangeSpec := { name := "realSums", fn := fun _ => fun
  | [d1, d2, d3, d4] => { results := [.lit (.bool false)], args := [d1, d2, d3, d4] }
  | _ => none }
def RealSumsWrongFalsely : Prop := realSumsRow.holds Try.pinned (OpenSpec.ofChange realSumsWrong)

/-- 'prompterlaw03.RealTurns': WHATEVER THE INPUT: true; the input reads as it did. -/
def realTurnsSpec : ChangeSpec := { name := "realTurns", fn := fun _ => fun
  | [d1, d2, d3, d4] => { results := [.lit (.bool true)], args := [d1, d2, d3, d4] }
  | _ => none }
def realTurnsRow : OpenClaim := { program := "ytfhmfialnnhidaa", sum := "3f58cabf8c2c497ce637d06e8d7a343e967e089dc4e51b38f17dfad8b00b9fac", func := "prompter/prompterlaw03.RealTurns", spec := "realTurns", inPlace := ["math.Float64bits", "math.Float64frombits"], apart := false }
def RealTurnsSaid : Prop := realTurnsRow.holds Try.pinned (OpenSpec.ofChange realTurnsSpec)

/-- ITS FALSE NEIGHBOUR: 'it returns false'. Refute it at one input. -/
def realTurnsWrong : ChangeSpec := { name := "realTurns", fn := fun _ => fun
  | [d1, d2, d3, d4] => { results := [.lit (.bool false)], args := [d1, d2, d3, d4] }
  | _ => none }
def RealTurnsWrongFalsely : Prop := realTurnsRow.holds Try.pinned (OpenSpec.ofChange realTurnsWrong)

/-- 'prompterlaw03.RealEdges': WHATEVER THE INPUT: true; the input reads as it did. -/
def realEdgesSpec : ChangeSpec := { name := "realEdges", fn := fun _ => fun
  | [d1, d2] => { results := [.lit (.bool true)], args := [d1, d2] }
  | _ => none }
def realEdgesRow : OpenClaim := { program := "ytfhmfialnnhidaa", sum := "3f58cabf8c2c497ce637d06e8d7a343e967e089dc4e51b38f17dfad8b00b9fac", func := "prompter/prompterlaw03.RealEdges", spec := "realEdges", inPlace := ["math.Float64bits", "math.Float64frombits"], apart := false }
def RealEdgesSaid : Prop := realEdgesRow.holds Try.pinned (OpenSpec.ofChange realEdgesSpec)

/-- ITS FALSE NEIGHBOUR: 'it returns false'. Refute it at one input. -/
def realEdgesWrong : ChangeSpec := { name := "realEdges", fn := fun _ => fun
  | [d1, d2] => { results := [.lit (.bool false)], args := [d1, d2] }
  | _ => none }
def RealEdgesWrongFalsely : Prop := realEdgesRow.holds Try.pinned (OpenSpec.ofChange realEdgesWrong)

/-- 'prompterlaw03.RealBits': WHATEVER THE INPUT: true; the input reads as it did. -/
def realBitsSpec : ChangeSpec := { name := "realBits", fn := fun _ => fun
  | [d1, d2, d3, d4] => { results := [.lit (.bool true)], args := [d1, d2, d3, d4] }
  | _ => none }
def realBitsRow : OpenClaim := { program := "ytfhmfialnnhidaa", sum := "3f58cabf8c2c497ce637d06e8d7a343e967e089dc4e51b38f17dfad8b00b9fac", func := "prompter/prompterlaw03.RealBits", spec := "realBits", inPlace := ["math.Float64bits", "math.Float64frombits"], apart := false }
def RealBitsSaid : Prop := realBitsRow.holds Try.pinned (OpenSpec.ofChange realBitsSpec)

/-- ITS FALSE NEIGHBOUR: 'it returns false'. Refute it at one input. -/
def realBitsWrong : ChangeSpec := { name := "realBits", fn := fun _ => fun
  | [d1, d2, d3, d4] => { results := [.lit (.bool false)], args := [d1, d2, d3, d4] }
  | _ => none }
def RealBitsWrongFalsely : Prop := realBitsRow.holds Try.pinned (OpenSpec.ofChange realBitsWrong)

/- THE SECOND FORM. 'bulk': how many values and letters a reading holds, each counted each time it is reached (what is shared counts as often as it is met; a slice's spare places count too). A statement '..UptoSaid' is the law's where the arguments, and the package variables that the reading takes, are together of bulk at most 1048576: NARROWER than '..Said'. Prove '..Said' where nothing that the law and all that it calls make is longer than what came in: it says more and counts as full. Else prove '..UptoSaid'. A law counts once. -/
mutual
def uptoBulk {H : Type} : DataW H → Nat
  | .lit (.string bytes) => bytes.length + 1
  | .lit _ => 1
  | .nil => 1
  | .ptr d => uptoBulk d + 1
  | .slice elems spare => uptoBulkAll elems + uptoBulkAll spare + 1
  | .agg parts => uptoBulkAll parts + 1
  | .iface _ d => uptoBulk d + 1
  | .map entries => uptoBulkEntries entries + 1
  | .held _ => 1
def uptoBulkAll {H : Type} : List (DataW H) → Nat
  | [] => 0
  | d :: r => uptoBulk d + uptoBulkAll r
def uptoBulkEntries {H : Type} : List (Lit × DataW H) → Nat
  | [] => 0
  | x :: r => uptoBulkEntry x + uptoBulkEntries r
def uptoBulkEntry {H : Type} : Lit × DataW H → Nat
  | (.string bytes, d) => bytes.length + uptoBulk d + 1
  | (_, d) => uptoBulk d + 1
 end
def uptoSmall : (H : Type) → List (DataW H) → Bool := fun _ ds => decide (uptoBulkAll ds ≤ 1048576)
def OpenSpec.upto (s : _root_.Go.ChangeSpec) : _root_.Go.OpenSpec := { _root_.Go.OpenSpec.ofChange s with cond := some uptoSmall }

/-- 'prompterlaw03.RealSums', WHERE WHAT IT READS IS OF BULK AT MOST 1048576: true; the input reads as it did. -/
def realSumsUptoRow : OpenClaim := { program := "ytfhmfialnnhidaa", sum := "3f58cabf8c2c497ce637d06e8d7a343e967e089dc4e51b38f17dfad8b00b9fac", func := "prompter/prompterlaw03.RealSums", spec := "realSums", inPlace := ["math.Float64bits", "math.Float64frombits"], apart := false, narrowed := true }
def RealSumsUptoSaid : Prop := realSumsUptoRow.holds Try.pinned (OpenSpec.upto realSumsSpec)

/-- 'prompterlaw03.RealTurns', WHERE WHAT IT READS IS OF BULK AT MOST 1048576: true; the input reads as it did. -/
def realTurnsUptoRow : OpenClaim := { program := "ytfhmfialnnhidaa", sum := "3f58cabf8c2c497ce637d06e8d7a343e967e089dc4e51b38f17dfad8b00b9fac", func := "prompter/prompterlaw03.RealTurns", spec := "realTurns", inPlace := ["math.Float64bits", "math.Float64frombits"], apart := false, narrowed := true }
def RealTurnsUptoSaid : Prop := realTurnsUptoRow.holds Try.pinned (OpenSpec.upto realTurnsSpec)

/-- 'prompterlaw03.RealEdges', WHERE WHAT IT READS IS OF BULK AT MOST 1048576: true; the input reads as it did. -/
def realEdgesUptoRow : OpenClaim := { program := "ytfhmfialnnhidaa", sum := "3f58cabf8c2c497ce637d06e8d7a343e967e089dc4e51b38f17dfad8b00b9fac", func := "prompter/prompterlaw03.RealEdges", spec := "realEdges", inPlace := ["math.Float64bits", "math.Float64frombits"], apart := false, narrowed := true }
def RealEdgesUptoSaid : Prop := realEdgesUptoRow.holds Try.pinned (OpenSpec.upto realEdgesSpec)

/-- 'prompterlaw03.RealBits', WHERE WHAT IT READS IS OF BULK AT MOST 1048576: true; the input reads as it did. -/
def realBitsUptoRow : OpenClaim := { program := "ytfhmfialnnhidaa", sum := "3f58cabf8c2c497ce637d06e8d7a343e967e089dc4e51b38f17dfad8b00b9fac", func := "prompter/prompterlaw03.RealBits", spec := "realBits", inPlace := ["math.Float64bits", "math.Float64frombits"], apart := false, narrowed := true }
def RealBitsUptoSaid : Prop := realBitsUptoRow.holds Try.pinned (OpenSpec.upto realBitsSpec)

end Rows
end Go.Proofs.Ytfhmfialnnhidaa
