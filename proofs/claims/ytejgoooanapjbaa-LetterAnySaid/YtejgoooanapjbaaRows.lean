/-
  No cell of these rows narrows 'for every input' (looked for: loops, veiled, ifaces, maps, wideKeys, modest, calm, conditions, laid).
  DERIVED. THE GIVEN ROWS OF THIS SEAT. 4 by the template 'for every input the law returns true; each argument reads behind the call as it read before'; 0 by the template 'total and deterministic' (their statements: YtejgoooanapjbaaTotals.lean).
  GIVEN WITH THE SEED: the statements are not yours to turn. If you find one false, say at which input.
  Laid BY PROGRAM, IN A SANDBOX (cutbox-rows.mjs): the forced cells as the released guide's own fill.sh prints them over the translation 8a49ddacfb418f48… (all of the seat's roots in one cut). By AI agents, Wed Nov 11 2026. No macro, syntax, notation, axiom, sorry.
-/
import Derived.Test.YtejgoooanapjbaaChecked
import GoSem.Claim
import GoSem.ClaimJoined
import GoSem.ClaimMapViews
import Derived.JoinedTies
import Derived.KernelRfl
namespace Go.Proofs.Ytejgoooanapjbaa
/- THE CELL 'sum', in the pinned program and in every row, IS THE sha256 OF THE DUMP (.gsa) THAT YtejgoooanapjbaaProg.lean LOADS. Nothing in Lean hashes anything: it is a label: what it is worth is what the hold of that sum in a sandbox is worth. -/
noncomputable def Try.pinned : Pinned := { name := "ytejgoooanapjbaa", sum := "8a49ddacfb418f487fde0497e1c0150e3e84178790f2e054a7258814710d771a", checked := Try.checked }
namespace Rows
def none {H : Type} : Left H := { results := [], args := [] }

/-- 'prompterlaw17.LetterBack': WHATEVER THE INPUT: true; the input reads as it did. -/
def letterBackSpec : ChangeSpec := { name := "letterBack", fn := fun _ => fun
  | [d] => { results := [.lit (.bool true)], args := [d] }
  | _ => none }
def letterBackRow : OpenClaim := { program := "ytejgoooanapjbaa", sum := "8a49ddacfb418f487fde0497e1c0150e3e84178790f2e054a7258814710d771a", func := "prompter/prompterlaw17.LetterBack", spec := "letterBack", unfollowed := true, recurses := true, apart := false }
def LetterBackSaid : Prop := letterBackRow.holds Try.pinned (OpenSpec.ofChange letterBackSpec)

/-- ITS FALSE NEIGHBOUR: 'it returns false'. Refute it at one input. -/
def letterBackWrong : ChangeSpec := { name := "letterBack", fn := fun _ => fun
  | [d] => { results := [.lit (.bool false)], args := [d] }
  | _ => none }
def LetterBackWrongFalsely : Prop := letterBackRow.holds Try.pinned (OpenSpec.ofChange letterBackWrong)

/-- 'prompterlaw17.LetterAny': WHATEVER THE INPUT: true; the input reads as it did. -/
def letterAnySpec : ChangeSpec := { name := "letterAny", fn := fun _ => fun
  | [d1, d2, d3, d4, d5] => { results := [.lit (.bool true)], args := [d1, d2, d3, d4, d5] }
  | _ => none }
def letterAnyRow : OpenClaim := { program := "ytejgoooanapjbaa", sum := "8a49ddacfb418f487fde0497e1c0150e3e84178790f2e054a7258814710d771a", func := "prompter/prompterlaw17.LetterAny", spec := "letterAny", unfollowed := true, recurses := true, apart := false }
def LetterAnySaid : Prop := letterAnyRow.holds Try.pinned (OpenSpec.ofChange letterAnySpec)

/-- ITS FALSE NEIGHBOUR: 'it returns false'. Refute it at one input. -/
def letterAnyWrong : ChangeSpec := { name := "letterAny", fn := fun _ => fun
  | [d1, d2, d3, d4, d5] => { results := [.lit (.bool false)], args := [d1, d2, d3, d4, d5] }
  | _ => none }
def LetterAnyWrongFalsely : Prop := letterAnyRow.holds Try.pinned (OpenSpec.ofChange letterAnyWrong)

/-- 'prompterlaw17.LetterChecks': WHATEVER THE INPUT: true; the input reads as it did. -/
def letterChecksSpec : ChangeSpec := { name := "letterChecks", fn := fun _ => fun
  | [d1, d2, d3] => { results := [.lit (.bool true)], args := [d1, d2, d3] }
  | _ => none }
def letterChecksRow : OpenClaim := { program := "ytejgoooanapjbaa", sum := "8a49ddacfb418f487fde0497e1c0150e3e84178790f2e054a7258814710d771a", func := "prompter/prompterlaw17.LetterChecks", spec := "letterChecks", unfollowed := true, recurses := true, apart := false }
def LetterChecksSaid : Prop := letterChecksRow.holds Try.pinned (OpenSpec.ofChange letterChecksSpec)

/-- ITS FALSE NEIGHBOUR: 'it returns false'. Refute it at one input. -/
def letterChecksWrong : ChangeSpec := { name := "letterChecks", fn := fun _ => fun
  | [d1, d2, d3] => { results := [.lit (.bool false)], args := [d1, d2, d3] }
  | _ => none }
def LetterChecksWrongFalsely : Prop := letterChecksRow.holds Try.pinned (OpenSpec.ofChange letterChecksWrong)

/-- 'prompterlaw17.LetterSame': WHATEVER THE INPUT: true; the input reads as it did. -/
def letterSameSpec : ChangeSpec := { name := "letterSame", fn := fun _ => fun
  | [d1, d2, d3] => { results := [.lit (.bool true)], args := [d1, d2, d3] }
  | _ => none }
def letterSameRow : OpenClaim := { program := "ytejgoooanapjbaa", sum := "8a49ddacfb418f487fde0497e1c0150e3e84178790f2e054a7258814710d771a", func := "prompter/prompterlaw17.LetterSame", spec := "letterSame", apart := false }
def LetterSameSaid : Prop := letterSameRow.holds Try.pinned (OpenSpec.ofChange letterSameSpec)

/-- ITS FALSE NEIGHBOUR: 'it returns false'. Refute it at one input. -/
def letterSameWrong : ChangeSpec := { name := "letterSame", fn := fun _ => fun
  | [d1, d2, d3] => { results := [.lit (.bool false)], args := [d1, d2, d3] }
  | _ => none }
def LetterSameWrongFalsely : Prop := letterSameRow.holds Try.pinned (OpenSpec.ofChange letterSameWrong)

/- THE SECOND FORM. 'bulk': how many values and letters a reading holds, each counted each time it is reached (what is shared counts as often as it is met; a slice's spare places count too). A statement '..UptoSaid' is the law's where the arguments, and the package variables that the reading takes, are together of bulk at most 1048576: NARROWER than '..Said'. Prove '..Said' where nothing that the law and all that it calls make is longer than what came in: it says more and counts as full. Else prove '..UptoSaid'. A law counts once. -/
mutual
def uptoBulk {H : Type} : DataW H → Nat
  | .lit (.string bytes) => bytes.length + 1
  | .lit _ => 1
  | .nil => 1
  | .ptr d => uptoBulk d + 1
  | .slice elems spare => uptoBulkAll elems + uptoBulkAll spare + 1
  | .agg parts => uptoBulkAll parts + 1
  | .iface _ d => uptoBulk d + 1
  | .map entries => uptoBulkEntries entries + 1
  | .held _ => 1
def uptoBulkAll {H : Type} : List (DataW H) → Nat
  | [] => 0
  | d :: r => uptoBulk d + uptoBulkAll r
def uptoBulkEntries {H : Type} : List (Lit × DataW H) → Nat
  | [] => 0
  | x :: r => uptoBulkEntry x + uptoBulkEntries r
def uptoBulkEntry {H : Type} : Lit × DataW H → Nat
  | (.string bytes, d) => bytes.length + uptoBulk d + 1
  | (_, d) => uptoBulk d + 1
 end
def uptoSmall : (H : Type) → List (DataW H) → Bool := fun _ ds => decide (uptoBulkAll ds ≤ 1048576)
def OpenSpec.upto (s : _root_.Go.ChangeSpec) : _root_.Go.OpenSpec := { _root_.Go.OpenSpec.ofChange s with cond := some uptoSmall }

/-- 'prompterlaw17.LetterBack', WHERE WHAT IT READS IS OF BULK AT MOST 1048576: true; the input reads as it did. -/
def letterBackUptoRow : OpenClaim := { program := "ytejgoooanapjbaa", sum := "8a49ddacfb418f487fde0497e1c0150e3e84178790f2e054a7258814710d771a", func := "prompter/prompterlaw17.LetterBack", spec := "letterBack", unfollowed := true, recurses := true, apart := false, narrowed := true }
def LetterBackUptoSaid : Prop := letterBackUptoRow.holds Try.pinned (OpenSpec.upto letterBackSpec)

/-- 'prompterlaw17.LetterAny', WHERE WHAT IT READS IS OF BULK AT MOST 1048576: true; the input reads as it did. -/
def letterAnyUptoRow : OpenClaim := { program := "ytejgoooanapjbaa", sum := "8a49ddacfb418f487fde0497e1c0150e3e84178790f2e054a7258814710d771a", func := "prompter/prompterlaw17.LetterAny", spec := "letterAny", unfollowed := true, recurses := true, apart := false, narrowed := true }
def LetterAnyUptoSaid : Prop := letterAnyUptoRow.holds Try.pinned (OpenSpec.upto letterAnySpec)

/-- 'prompterlaw17.LetterChecks', WHERE WHAT IT READS IS OF BULK AT MOST 1048576: true; the input reads as it did. -/
def letterChecksUptoRow : OpenClaim := { program := "ytejgoooanapjbaa", sum := "8a49ddacfb418f487fde0497e1c0150e3e84178790f2e054a7258814710d771a", func := "prompter/prompterlaw17.LetterChecks", spec := "letterChecks", unfollowed := true, recurses := true, apart := false, narrowed := true }
def LetterChecksUptoSaid : Prop := letterChecksUptoRow.holds Try.pinned (OpenSpec.upto letterChecksSpec)

/-- 'prompterlaw17.LetterSame', WHERE WHAT IT READS IS OF BULK AT MOST 1048576: true; the input reads as it did. -/
def letterSameUptoRow : OpenClaim := { program := "ytejgoooanapjbaa", sum := "8a49ddacfb418f487fde0497e1c0150e3e84178790f2e054a7258814710d771a", func := "prompter/prompterlaw17.LetterSame", spec := "letterSame", apart := false, narrowed := true }
def LetterSameUptoSaid : Prop := letterSameUptoRow.holds Try.pinned (OpenSpec.upto letterSameSpec)

end Rows
end Go.Proofs.Ytejgoooanapjbaa
