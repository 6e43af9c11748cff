/-
  No cell of these rows narrows 'for every input' (looked for: loops, veiled, ifaces, maps, wideKeys, modest, calm, conditions, laid).
  DERIVED. THE GIVEN ROWS OF THIS SEAT. 3 by the template 'for every input the law returns true; each argument reads behind the call as it read before'; 0 by the template 'total and deterministic' (their statements: YtbnmmfgidbhpeaaTotals.lean).
  GIVEN WITH THE SEED: the statements are not yours to turn. If you find one false, say at which input.
  Laid BY PROGRAM, IN A SANDBOX (cutbox-rows.mjs): the forced cells as the released guide's own fill.sh prints them over the translation 239f6dbf5e23d033… (all of the seat's roots in one cut). By AI agents, Wed Nov 11 2026. No macro, syntax, notation, axiom, sorry.
-/
import Derived.Test.YtbnmmfgidbhpeaaChecked
import GoSem.Claim
import GoSem.ClaimJoined
import GoSem.ClaimMapViews
import Derived.JoinedTies
import Derived.KernelRfl
namespace Go.Proofs.Ytbnmmfgidbhpeaa
/- THE CELL 'sum', in the pinned program and in every row, IS THE sha256 OF THE DUMP (.gsa) THAT YtbnmmfgidbhpeaaProg.lean LOADS. Nothing in Lean hashes anything: it is a label: what it is worth is what the hold of that sum in a sandbox is worth. -/
noncomputable def Try.pinned : Pinned := { name := "ytbnmmfgidbhpeaa", sum := "239f6dbf5e23d033f58a19777b505b15e76aa596995f5d1f52058cb0c380113e", checked := Try.checked }
namespace Rows
def none {H : Type} : Left H := { results := [], args := [] }

/-- 'prompterlaw12.CallChecks': WHATEVER THE INPUT: true; the input reads as it did. -/
def callChecksSpec : ChangeSpec := { name := "callChecks", fn := fun _ => fun
  | [d1, d2, d3, d4, d5, d6, d7] => { results := [.lit (.bool true)], args := [d1, d2, d3, d4, d5, d6, d7] }
  | _ => none }
def callChecksRow : OpenClaim := { program := "ytbnmmfgidbhpeaa", sum := "239f6dbf5e23d033f58a19777b505b15e76aa596995f5d1f52058cb0c380113e", func := "prompter/prompterlaw12.CallChecks", spec := "callChecks", apart := false }
def CallChecksSaid : Prop := callChecksRow.holds Try.pinned (OpenSpec.ofChange callChecksSpec)

/-- ITS FALSE NEIGHBOUR: 'it returns false'. Refute it at one input. -/
def callChecksWrong : ChangeSpec := { name := "callChecks", fn := fun _ => fun
  | [d1, d2, d3, d4, d5, d6, d7] => { results := [.lit (.bool false)], args := [d1, d2, d3, d4, d5, d6, d7] }
  | _ => none }
def CallChecksWrongFalsely : Prop := callChecksRow.holds Try.pinned (OpenSpec.ofChange callChecksWrong)

/-- 'prompterlaw12.CallMarks': WHATEVER THE INPUT: true; the input reads as it did. -/
def callMarksSpec : ChangeSpec := { name := "callMarks", fn := fun _ => fun
  | [d1, d2, d3] => { results := [.lit (.bool true)], args := [d1, d2, d3] }
  | _ => none }
def callMarksRow : OpenClaim := { program := "ytbnmmfgidbhpeaa", sum := "239f6dbf5e23d033f58a19777b505b15e76aa596995f5d1f52058cb0c380113e", func := "prompter/prompterlaw12.CallMarks", spec := "callMarks", apart := false }
def CallMarksSaid : Prop := callMarksRow.holds Try.pinned (OpenSpec.ofChange callMarksSpec)

/-- ITS FALSE NEIGHBOUR: 'it returns false'. Refute it at one input. -/
def callMarksWrong : ChangeSpec := { name := "callMarks", fn := fun _ => fun
  | [d1, d2, d3] => { results := [.lit (.bool false)], args := [d1, d2, d3] }
  | _ => none }
def CallMarksWrongFalsely : Prop := callMarksRow.holds Try.pinned (OpenSpec.ofChange callMarksWrong)

/-- 'prompterlaw12.CallBack': WHATEVER THE INPUT: true; the input reads as it did. -/
def callBackSpec : ChangeSpec := { name := "callBack", fn := fun _ => fun
  | [d1, d2, d3] => { results := [.lit (.bool true)], args := [d1, d2, d3] }
  | _ => none }
def callBackRow : OpenClaim := { program := "ytbnmmfgidbhpeaa", sum := "239f6dbf5e23d033f58a19777b505b15e76aa596995f5d1f52058cb0c380113e", func := "prompter/prompterlaw12.CallBack", spec := "callBack", apart := false }
def CallBackSaid : Prop := callBackRow.holds Try.pinned (OpenSpec.ofChange callBackSpec)

/-- ITS FALSE NEIGHBOUR: 'it returns false'. Refute it at one input. -/
def callBackWrong : ChangeSpec := { name := "callBack", fn := fun _ => fun
  | [d1, d2, d3] => { results := [.lit (.bool false)], args := [d1, d2, d3] }
  | _ => none }
def CallBackWrongFalsely : Prop := callBackRow.holds Try.pinned (OpenSpec.ofChange callBackWrong)

/- THE SECOND FORM. 'bulk': how many values and letters a reading holds, each counted each time it is reached (what is shared counts as often as it is met; a slice's spare places count too). A statement '..UptoSaid' is the law's where the arguments, and the package variables that the reading takes, are together of bulk at most 1048576: NARROWER than '..Said'. Prove '..Said' where nothing that the law and all that it calls make is longer than what came in: it says more and counts as full. Else prove '..UptoSaid'. A law counts once. -/
mutual
def uptoBulk {H : Type} : DataW H → Nat
  | .lit (.string bytes) => bytes.length + 1
  | .lit _ => 1
  | .nil => 1
  | .ptr d => uptoBulk d + 1
  | .slice elems spare => uptoBulkAll elems + uptoBulkAll spare + 1
  | .agg parts => uptoBulkAll parts + 1
  | .iface _ d => uptoBulk d + 1
  | .map entries => uptoBulkEntries entries + 1
  | .held _ => 1
def uptoBulkAll {H : Type} : List (DataW H) → Nat
  | [] => 0
  | d :: r => uptoBulk d + uptoBulkAll r
def uptoBulkEntries {H : Type} : List (Lit × DataW H) → Nat
  | [] => 0
  | x :: r => uptoBulkEntry x + uptoBulkEntries r
def uptoBulkEntry {H : Type} : Lit × DataW H → Nat
  | (.string bytes, d) => bytes.length + uptoBulk d + 1
  | (_, d) => uptoBulk d + 1
 end
def uptoSmall : (H : Type) → List (DataW H) → Bool := fun _ ds => decide (uptoBulkAll ds ≤ 1048576)
def OpenSpec.upto (s : _root_.Go.ChangeSpec) : _root_.Go.OpenSpec := { _root_.Go.OpenSpec.ofChange s with cond := some uptoSmall }

/-- 'prompterlaw12.CallChecks', WHERE WHAT IT READS IS OF BULK AT MOST 1048576: true; the input reads as it did. -/
def callChecksUptoRow : OpenClaim := { program := "ytbnmmfgidbhpeaa", sum := "239f6dbf5e23d033f58a19777b505b15e76aa596995f5d1f52058cb0c380113e", func := "prompter/prompterlaw12.CallChecks", spec := "callChecks", apart := false, narrowed := true }
def CallChecksUptoSaid : Prop := callChecksUptoRow.holds Try.pinned (OpenSpec.upto callChecksSpec)

/-- 'prompterlaw12.CallMarks', WHERE WHAT IT READS IS OF BULK AT MOST 1048576: true; the input reads as it did. -/
def callMarksUptoRow : OpenClaim := { program := "ytbnmmfgidbhpeaa", sum := "239f6dbf5e23d033f58a19777b505b15e76aa596995f5d1f52058cb0c380113e", func := "prompter/prompterlaw12.CallMarks", spec := "callMarks", apart := false, narrowed := true }
def CallMarksUptoSaid : Prop := callMarksUptoRow.holds Try.pinned (OpenSpec.upto callMarksSpec)

/-- 'prompterlaw12.CallBack', WHERE WHAT IT READS IS OF BULK AT MOST 1048576: true; the input reads as it did. -/
def callBackUptoRow : OpenClaim := { program := "ytbnmmfgidbhpeaa", sum := "239f6dbf5e23d033f58a19777b505b15e76aa596995f5d1f52058cb0c380113e", func := "prompter/prompterlaw12.CallBack", spec := "callBack", apart := false, narrowed := true }
def CallBackUptoSaid : Prop := callBackUptoRow.holds Try.pinned (OpenSpec.upto callBackSpec)

end Rows
end Go.Proofs.Ytbnmmfgidbhpeaa
