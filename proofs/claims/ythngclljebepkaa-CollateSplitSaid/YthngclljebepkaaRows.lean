/-
  No cell of these rows narrows 'for every input' (looked for: loops, veiled, ifaces, maps, wideKeys, modest, calm, conditions, laid).
  DERIVED. THE GIVEN ROWS OF THIS SEAT. 4 by the template 'for every input the law returns true; each argument reads behind the call as it read before'; 0 by the template 'total and deterministic' (their statements: YthngclljebepkaaTotals.lean).
  GIVEN WITH THE SEED: the statements are not yours to turn. If you find one false, say at which input.
  Laid BY PROGRAM, IN A SANDBOX (cutbox-rows.mjs): the forced cells as the released guide's own fill.sh prints them over the translation 3675eca72b6d0d34… (all of the seat's roots in one cut). By AI agents, Wed Nov 11 2026. No macro, syntax, notation, axiom, sorry.
-/
import Derived.Test.YthngclljebepkaaChecked
import GoSem.Claim
import GoSem.ClaimJoined
import GoSem.ClaimMapViews
import Derived.JoinedTies
import Derived.KernelRfl
namespace Go.Proofs.Ythngclljebepkaa
/- THE CELL 'sum', in the pinned program and in every row, IS THE sha256 OF THE DUMP (.gsa) THAT YthngclljebepkaaProg.lean LOADS. Nothing in Lean hashes anything: it is a label: what it is worth is what the hold of that sum in a sandbox is worth. -/
noncomputable def Try.pinned : Pinned := { name := "ythngclljebepkaa", sum := "3675eca72b6d0d34d522853ac2679b8c917e9c12e805780bea85a04cb6ec2283", checked := Try.checked }
namespace Rows
def none {H : Type} : Left H := { results := [], args := [] }

/-- 'prompterlaw21.CollateAlike': WHATEVER THE INPUT: true; the input reads as it did. -/
def collateAlikeSpec : ChangeSpec := { name := "collateAlike", fn := fun _ => fun
  | [d1, d2, d3, d4] => { results := [.lit (.bool true)], args := [d1, d2, d3, d4] }
  | _ => none }
def collateAlikeRow : OpenClaim := { program := "ythngclljebepkaa", sum := "3675eca72b6d0d34d522853ac2679b8c917e9c12e805780bea85a04cb6ec2283", func := "prompter/prompterlaw21.CollateAlike", spec := "collateAlike", unfollowed := true, recurses := true, apart := false }
def CollateAlikeSaid : Prop := collateAlikeRow.holds Try.pinned (OpenSpec.ofChange collateAlikeSpec)

/-- ITS FALSE NEIGHBOUR: 'it returns false'. Refute it at one input. -/
def collateAlikeWrong : ChangeSpec := { name := "collateAlike", fn := fun _ => fun
  | [d1, d2, d3, d4] => { results := [.lit (.bool false)], args := [d1, d2, d3, d4] }
  | _ => none }
def CollateAlikeWrongFalsely : Prop := collateAlikeRow.holds Try.pinned (OpenSpec.ofChange collateAlikeWrong)

/-- 'prompterlaw21.CollateAnswers': WHATEVER THE INPUT: true; the input reads as it did. -/
def collateAnswersSpec : ChangeSpec := { name := "collateAnswers", fn := fun _ => fun
  | [d1, d2, d3, d4] => { results := [.lit (.bool true)], args := [d1, d2, d3, d4] }
  | _ => none }
def collateAnswersRow : OpenClaim := { program := "ythngclljebepkaa", sum := "3675eca72b6d0d34d522853ac2679b8c917e9c12e805780bea85a04cb6ec2283", func := "prompter/prompterlaw21.CollateAnswers", spec := "collateAnswers", unfollowed := true, recurses := true, apart := false }
def CollateAnswersSaid : Prop := collateAnswersRow.holds Try.pinned (OpenSpec.ofChange collateAnswersSpec)

/-- ITS FALSE NEIGHBOUR: 'it returns false'. Refute it at one input. -/
def collateAnswersWrong : ChangeSpec := { name := "collateAnswers", fn := fun _ => fun
  | [d1, d2, d3, d4] => { results := [.lit (.bool false)], args := [d1, d2, d3, d4] }
  | _ => none }
def CollateAnswersWrongFalsely : Prop := collateAnswersRow.holds Try.pinned (OpenSpec.ofChange collateAnswersWrong)

/-- 'prompterlaw21.CollateNone': WHATEVER THE INPUT: true; the input reads as it did. -/
def collateNoneSpec : ChangeSpec := { name := "collateNone", fn := fun _ => fun
  | [d1, d2, d3, d4] => { results := [.lit (.bool true)], args := [d1, d2, d3, d4] }
  | _ => none }
def collateNoneRow : OpenClaim := { program := "ythngclljebepkaa", sum := "3675eca72b6d0d34d522853ac2679b8c917e9c12e805780bea85a04cb6ec2283", func := "prompter/prompterlaw21.CollateNone", spec := "collateNone", unfollowed := true, recurses := true, apart := false }
def CollateNoneSaid : Prop := collateNoneRow.holds Try.pinned (OpenSpec.ofChange collateNoneSpec)

/-- ITS FALSE NEIGHBOUR: 'it returns false'. Refute it at one input. -/
def collateNoneWrong : ChangeSpec := { name := "collateNone", fn := fun _ => fun
  | [d1, d2, d3, d4] => { results := [.lit (.bool false)], args := [d1, d2, d3, d4] }
  | _ => none }
def CollateNoneWrongFalsely : Prop := collateNoneRow.holds Try.pinned (OpenSpec.ofChange collateNoneWrong)

/-- 'prompterlaw21.CollateSplit': WHATEVER THE INPUT: true; the input reads as it did. -/
def collateSplitSpec : ChangeSpec := { name := "collateSplit", fn := fun _ => fun
  | [d1, d2, d3] => { results := [.lit (.bool true)], args := [d1, d2, d3] }
  | _ => none }
def collateSplitRow : OpenClaim := { program := "ythngclljebepkaa", sum := "3675eca72b6d0d34d522853ac2679b8c917e9c12e805780bea85a04cb6ec2283", func := "prompter/prompterlaw21.CollateSplit", spec := "collateSplit", unfollowed := true, recurses := true, apart := false }
def CollateSplitSaid : Prop := collateSplitRow.holds Try.pinned (OpenSpec.ofChange collateSplitSpec)

/-- ITS FALSE NEIGHBOUR: 'it returns false'. Refute it at one input. -/
def collateSplitWrong : ChangeSpec := { name := "collateSplit", fn := fun _ => fun
  | [d1, d2, d3] => { results := [.lit (.bool false)], args := [d1, d2, d3] }
  | _ => none }
def CollateSplitWrongFalsely : Prop := collateSplitRow.holds Try.pinned (OpenSpec.ofChange collateSplitWrong)

/- THE SECOND FORM. 'bulk': how many values and letters a reading holds, each counted each time it is reached (what is shared counts as often as it is met; a slice's spare places count too). A statement '..UptoSaid' is the law's where the arguments, and the package variables that the reading takes, are together of bulk at most 1048576: NARROWER than '..Said'. Prove '..Said' where nothing that the law and all that it calls make is longer than what came in: it says more and counts as full. Else prove '..UptoSaid'. A law counts once. -/
mutual
def uptoBulk {H : Type} : DataW H → Nat
  | .lit (.string bytes) => bytes.length + 1
  | .lit _ => 1
  | .nil => 1
  | .ptr d => uptoBulk d + 1
  | .slice elems spare => uptoBulkAll elems + uptoBulkAll spare + 1
  | .agg parts => uptoBulkAll parts + 1
  | .iface _ d => uptoBulk d + 1
  | .map entries => uptoBulkEntries entries + 1
  | .held _ => 1
def uptoBulkAll {H : Type} : List (DataW H) → Nat
  | [] => 0
  | d :: r => uptoBulk d + uptoBulkAll r
def uptoBulkEntries {H : Type} : List (Lit × DataW H) → Nat
  | [] => 0
  | x :: r => uptoBulkEntry x + uptoBulkEntries r
def uptoBulkEntry {H : Type} : Lit × DataW H → Nat
  | (.string bytes, d) => bytes.length + uptoBulk d + 1
  | (_, d) => uptoBulk d + 1
 end
def uptoSmall : (H : Type) → List (DataW H) → Bool := fun _ ds => decide (uptoBulkAll ds ≤ 1048576)
def OpenSpec.upto (s : _root_.Go.ChangeSpec) : _root_.Go.OpenSpec := { _root_.Go.OpenSpec.ofChange s with cond := some uptoSmall }

/-- 'prompterlaw21.CollateAlike', WHERE WHAT IT READS IS OF BULK AT MOST 1048576: true; the input reads as it did. -/
def collateAlikeUptoRow : OpenClaim := { program := "ythngclljebepkaa", sum := "3675eca72b6d0d34d522853ac2679b8c917e9c12e805780bea85a04cb6ec2283", func := "prompter/prompterlaw21.CollateAlike", spec := "collateAlike", unfollowed := true, recurses := true, apart := false, narrowed := true }
def CollateAlikeUptoSaid : Prop := collateAlikeUptoRow.holds Try.pinned (OpenSpec.upto collateAlikeSpec)

/-- 'prompterlaw21.CollateAnswers', WHERE WHAT IT READS IS OF BULK AT MOST 1048576: true; the input reads as it did. -/
def collateAnswersUptoRow : OpenClaim := { program := "ythngclljebepkaa", sum := "3675eca72b6d0d34d522853ac2679b8c917e9c12e805780bea85a04cb6ec2283", func := "prompter/prompterlaw21.CollateAnswers", spec := "collateAnswers", unfollowed := true, recurses := true, apart := false, narrowed := true }
def CollateAnswersUptoSaid : Prop := collateAnswersUptoRow.holds Try.pinned (OpenSpec.upto collateAnswersSpec)

/-- 'prompterlaw21.CollateNone', WHERE WHAT IT READS IS OF BULK AT MOST 1048576: true; the input reads as it did. -/
def collateNoneUptoRow : OpenClaim := { program := "ythngclljebepkaa", sum := "3675eca72b6d0d34d522853ac2679b8c917e9c12e805780bea85a04cb6ec2283", func := "prompter/prompterlaw21.CollateNone", spec := "collateNone", unfollowed := true, recurses := true, apart := false, narrowed := true }
def CollateNoneUptoSaid : Prop := collateNoneUptoRow.holds Try.pinned (OpenSpec.upto collateNoneSpec)

/-- 'prompterlaw21.CollateSplit', WHERE WHAT IT READS IS OF BULK AT MOST 1048576: true; the input reads as it did. -/
def collateSplitUptoRow : OpenClaim := { program := "ythngclljebepkaa", sum := "3675eca72b6d0d34d522853ac2679b8c917e9c12e805780bea85a04cb6ec2283", func := "prompter/prompterlaw21.CollateSplit", spec := "collateSplit", unfollowed := true, recurses := true, apart := false, narrowed := true }
def CollateSplitUptoSaid : Prop := collateSplitUptoRow.holds Try.pinned (OpenSpec.upto collateSplitSpec)

end Rows
end Go.Proofs.Ythngclljebepkaa
