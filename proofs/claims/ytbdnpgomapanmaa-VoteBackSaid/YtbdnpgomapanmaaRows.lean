/-
  No cell of these rows narrows 'for every input' (looked for: loops, veiled, ifaces, maps, wideKeys, modest, calm, conditions, laid).
  DERIVED. THE GIVEN ROWS OF THIS SEAT. 5 by the template 'for every input the law returns true; each argument reads behind the call as it read before'; 0 by the template 'total and deterministic' (their statements: YtbdnpgomapanmaaTotals.lean).
  GIVEN WITH THE SEED: the statements are not yours to turn. If you find one false, say at which input.
  Laid BY PROGRAM, IN A SANDBOX (cutbox-rows.mjs): the forced cells as the released guide's own fill.sh prints them over the translation 2e4caa612adcf8ec… (all of the seat's roots in one cut). By AI agents, Wed Nov 11 2026. No macro, syntax, notation, axiom, sorry.
-/
import Derived.Test.YtbdnpgomapanmaaChecked
import GoSem.Claim
import GoSem.ClaimJoined
import GoSem.ClaimMapViews
import Derived.JoinedTies
import Derived.KernelRfl
namespace Go.Proofs.Ytbdnpgomapanmaa
/- THE CELL 'sum', in the pinned program and in every row, IS THE sha256 OF THE DUMP (.gsa) THAT YtbdnpgomapanmaaProg.lean LOADS. Nothing in Lean hashes anything: it is a label: what it is worth is what the hold of that sum in a sandbox is worth. -/
noncomputable def Try.pinned : Pinned := { name := "ytbdnpgomapanmaa", sum := "2e4caa612adcf8ec3ad1ea67f6fc29378d5e1c5665901661e74e8d13be7acfbb", checked := Try.checked }
namespace Rows
def none {H : Type} : Left H := { results := [], args := [] }

/-- 'prompterlaw15.VoteBallots': WHATEVER THE INPUT: true; the input reads as it did. -/
def voteBallotsSpec : ChangeSpec := { name := "voteBallots", fn := fun _ => fun
  | [d1, d2, d3] => { results := [.lit (.bool true)], args := [d1, d2, d3] }
  | _ => none }
def voteBallotsRow : OpenClaim := { program := "ytbdnpgomapanmaa", sum := "2e4caa612adcf8ec3ad1ea67f6fc29378d5e1c5665901661e74e8d13be7acfbb", func := "prompter/prompterlaw15.VoteBallots", spec := "voteBallots", apart := false }
def VoteBallotsSaid : Prop := voteBallotsRow.holds Try.pinned (OpenSpec.ofChange voteBallotsSpec)

/-- ITS FALSE NEIGHBOUR: 'it returns false'. Refute it at one input. -/
def voteBallotsWrong : ChangeSpec := { name := "voteBallots", fn := fun _ => fun
  | [d1, d2, d3] => { results := [.lit (.bool false)], args := [d1, d2, d3] }
  | _ => none }
def VoteBallotsWrongFalsely : Prop := voteBallotsRow.holds Try.pinned (OpenSpec.ofChange voteBallotsWrong)

/-- 'prompterlaw15.VoterPlays': WHATEVER THE INPUT: true; the input reads as it did. -/
def voterPlaysSpec : ChangeSpec := { name := "voterPlays", fn := fun _ => fun
  | [d] => { results := [.lit (.bool true)], args := [d] }
  | _ => none }
def voterPlaysRow : OpenClaim := { program := "ytbdnpgomapanmaa", sum := "2e4caa612adcf8ec3ad1ea67f6fc29378d5e1c5665901661e74e8d13be7acfbb", func := "prompter/prompterlaw15.VoterPlays", spec := "voterPlays", apart := false }
def VoterPlaysSaid : Prop := voterPlaysRow.holds Try.pinned (OpenSpec.ofChange voterPlaysSpec)

/-- ITS FALSE NEIGHBOUR: 'it returns false'. Refute it at one input. -/
def voterPlaysWrong : ChangeSpec := { name := "voterPlays", fn := fun _ => fun
  | [d] => { results := [.lit (.bool false)], args := [d] }
  | _ => none }
def VoterPlaysWrongFalsely : Prop := voterPlaysRow.holds Try.pinned (OpenSpec.ofChange voterPlaysWrong)

/-- 'prompterlaw15.VoterTwo': WHATEVER THE INPUT: true; the input reads as it did. -/
def voterTwoSpec : ChangeSpec := { name := "voterTwo", fn := fun _ => fun
  | [d1, d2, d3, d4] => { results := [.lit (.bool true)], args := [d1, d2, d3, d4] }
  | _ => none }
def voterTwoRow : OpenClaim := { program := "ytbdnpgomapanmaa", sum := "2e4caa612adcf8ec3ad1ea67f6fc29378d5e1c5665901661e74e8d13be7acfbb", func := "prompter/prompterlaw15.VoterTwo", spec := "voterTwo", apart := false }
def VoterTwoSaid : Prop := voterTwoRow.holds Try.pinned (OpenSpec.ofChange voterTwoSpec)

/-- ITS FALSE NEIGHBOUR: 'it returns false'. Refute it at one input. -/
def voterTwoWrong : ChangeSpec := { name := "voterTwo", fn := fun _ => fun
  | [d1, d2, d3, d4] => { results := [.lit (.bool false)], args := [d1, d2, d3, d4] }
  | _ => none }
def VoterTwoWrongFalsely : Prop := voterTwoRow.holds Try.pinned (OpenSpec.ofChange voterTwoWrong)

/-- 'prompterlaw15.VoteChecks': WHATEVER THE INPUT: true; the input reads as it did. -/
def voteChecksSpec : ChangeSpec := { name := "voteChecks", fn := fun _ => fun
  | [d1, d2, d3, d4] => { results := [.lit (.bool true)], args := [d1, d2, d3, d4] }
  | _ => none }
def voteChecksRow : OpenClaim := { program := "ytbdnpgomapanmaa", sum := "2e4caa612adcf8ec3ad1ea67f6fc29378d5e1c5665901661e74e8d13be7acfbb", func := "prompter/prompterlaw15.VoteChecks", spec := "voteChecks", apart := false }
def VoteChecksSaid : Prop := voteChecksRow.holds Try.pinned (OpenSpec.ofChange voteChecksSpec)

/-- ITS FALSE NEIGHBOUR: 'it returns false'. Refute it at one input. -/
def voteChecksWrong : ChangeSpec := { name := "voteChecks", fn := fun _ => fun
  | [d1, d2, d3, d4] => { results := [.lit (.bool false)], args := [d1, d2, d3, d4] }
  | _ => none }
def VoteChecksWrongFalsely : Prop := voteChecksRow.holds Try.pinned (OpenSpec.ofChange voteChecksWrong)

/-- 'prompterlaw15.VoteBack': WHATEVER THE INPUT: true; the input reads as it did. -/
def voteBackSpec : ChangeSpec := { name := "voteBack", fn := fun _ => fun
  | [d1, d2, d3] => { results := [.lit (.bool true)], args := [d1, d2, d3] }
  | _ => none }
def voteBackRow : OpenClaim := { program := "ytbdnpgomapanmaa", sum := "2e4caa612adcf8ec3ad1ea67f6fc29378d5e1c5665901661e74e8d13be7acfbb", func := "prompter/prompterlaw15.VoteBack", spec := "voteBack", apart := false }
def VoteBackSaid : Prop := voteBackRow.holds Try.pinned (OpenSpec.ofChange voteBackSpec)

/-- ITS FALSE NEIGHBOUR: 'it returns false'. Refute it at one input. -/
def voteBackWrong : ChangeSpec := { name := "voteBack", fn := fun _ => fun
  | [d1, d2, d3] => { results := [.lit (.bool false)], args := [d1, d2, d3] }
  | _ => none }
def VoteBackWrongFalsely : Prop := voteBackRow.holds Try.pinned (OpenSpec.ofChange voteBackWrong)

/- THE SECOND FORM. 'bulk': how many values and letters a reading holds, each counted each time it is reached (what is shared counts as often as it is met; a slice's spare places count too). A statement '..UptoSaid' is the law's where the arguments, and the package variables that the reading takes, are together of bulk at most 1048576: NARROWER than '..Said'. Prove '..Said' where nothing that the law and all that it calls make is longer than what came in: it says more and counts as full. Else prove '..UptoSaid'. A law counts once. -/
mutual
def uptoBulk {H : Type} : DataW H → Nat
  | .lit (.string bytes) => bytes.length + 1
  | .lit _ => 1
  | .nil => 1
  | .ptr d => uptoBulk d + 1
  | .slice elems spare => uptoBulkAll elems + uptoBulkAll spare + 1
  | .agg parts => uptoBulkAll parts + 1
  | .iface _ d => uptoBulk d + 1
  | .map entries => uptoBulkEntries entries + 1
  | .held _ => 1
def uptoBulkAll {H : Type} : List (DataW H) → Nat
  | [] => 0
  | d :: r => uptoBulk d + uptoBulkAll r
def uptoBulkEntries {H : Type} : List (Lit × DataW H) → Nat
  | [] => 0
  | x :: r => uptoBulkEntry x + uptoBulkEntries r
def uptoBulkEntry {H : Type} : Lit × DataW H → Nat
  | (.string bytes, d) => bytes.length + uptoBulk d + 1
  | (_, d) => uptoBulk d + 1
 end
def uptoSmall : (H : Type) → List (DataW H) → Bool := fun _ ds => decide (uptoBulkAll ds ≤ 1048576)
def OpenSpec.upto (s : _root_.Go.ChangeSpec) : _root_.Go.OpenSpec := { _root_.Go.OpenSpec.ofChange s with cond := some uptoSmall }

/-- 'prompterlaw15.VoteBallots', WHERE WHAT IT READS IS OF BULK AT MOST 1048576: true; the input reads as it did. -/
def voteBallotsUptoRow : OpenClaim := { program := "ytbdnpgomapanmaa", sum := "2e4caa612adcf8ec3ad1ea67f6fc29378d5e1c5665901661e74e8d13be7acfbb", func := "prompter/prompterlaw15.VoteBallots", spec := "voteBallots", apart := false, narrowed := true }
def VoteBallotsUptoSaid : Prop := voteBallotsUptoRow.holds Try.pinned (OpenSpec.upto voteBallotsSpec)

/-- 'prompterlaw15.VoterPlays', WHERE WHAT IT READS IS OF BULK AT MOST 1048576: true; the input reads as it did. -/
def voterPlaysUptoRow : OpenClaim := { program := "ytbdnpgomapanmaa", sum := "2e4caa612adcf8ec3ad1ea67f6fc29378d5e1c5665901661e74e8d13be7acfbb", func := "prompter/prompterlaw15.VoterPlays", spec := "voterPlays", apart := false, narrowed := true }
def VoterPlaysUptoSaid : Prop := voterPlaysUptoRow.holds Try.pinned (OpenSpec.upto voterPlaysSpec)

/-- 'prompterlaw15.VoterTwo', WHERE WHAT IT READS IS OF BULK AT MOST 1048576: true; the input reads as it did. -/
def voterTwoUptoRow : OpenClaim := { program := "ytbdnpgomapanmaa", sum := "2e4caa612adcf8ec3ad1ea67f6fc29378d5e1c5665901661e74e8d13be7acfbb", func := "prompter/prompterlaw15.VoterTwo", spec := "voterTwo", apart := false, narrowed := true }
def VoterTwoUptoSaid : Prop := voterTwoUptoRow.holds Try.pinned (OpenSpec.upto voterTwoSpec)

/-- 'prompterlaw15.VoteChecks', WHERE WHAT IT READS IS OF BULK AT MOST 1048576: true; the input reads as it did. -/
def voteChecksUptoRow : OpenClaim := { program := "ytbdnpgomapanmaa", sum := "2e4caa612adcf8ec3ad1ea67f6fc29378d5e1c5665901661e74e8d13be7acfbb", func := "prompter/prompterlaw15.VoteChecks", spec := "voteChecks", apart := false, narrowed := true }
def VoteChecksUptoSaid : Prop := voteChecksUptoRow.holds Try.pinned (OpenSpec.upto voteChecksSpec)

/-- 'prompterlaw15.VoteBack', WHERE WHAT IT READS IS OF BULK AT MOST 1048576: true; the input reads as it did. -/
def voteBackUptoRow : OpenClaim := { program := "ytbdnpgomapanmaa", sum := "2e4caa612adcf8ec3ad1ea67f6fc29378d5e1c5665901661e74e8d13be7acfbb", func := "prompter/prompterlaw15.VoteBack", spec := "voteBack", apart := false, narrowed := true }
def VoteBackUptoSaid : Prop := voteBackUptoRow.holds Try.pinned (OpenSpec.upto voteBackSpec)

end Rows
end Go.Proofs.Ytbdnpgomapanmaa
