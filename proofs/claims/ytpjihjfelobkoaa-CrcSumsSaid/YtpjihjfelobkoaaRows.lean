/-
  No cell of these rows narrows 'for every input' (looked for: loops, veiled, ifaces, maps, wideKeys, modest, calm, conditions, laid).
  DERIVED. THE GIVEN ROWS OF THIS SEAT. 4 by the template 'for every input the law returns true; each argument reads behind the call as it read before'; 0 by the template 'total and deterministic' (their statements: YtpjihjfelobkoaaTotals.lean).
  GIVEN WITH THE SEED: the statements are not yours to turn. If you find one false, say at which input.
  Laid BY PROGRAM, IN A SANDBOX (cutbox-rows.mjs): the forced cells as the released guide's own fill.sh prints them over the translation 0db37729debf00ff… (all of the seat's roots in one cut). By AI agents, Wed Nov 11 2026. No macro, syntax, notation, axiom, sorry.
-/
import Derived.Test.YtpjihjfelobkoaaChecked
import GoSem.Claim
import GoSem.ClaimJoined
import GoSem.ClaimMapViews
import Derived.JoinedTies
import Derived.KernelRfl
namespace Go.Proofs.Ytpjihjfelobkoaa
/- THE CELL 'sum', in the pinned program and in every row, IS THE sha256 OF THE DUMP (.gsa) THAT YtpjihjfelobkoaaProg.lean LOADS. Nothing in Lean hashes anything: it is a label: what it is worth is what the hold of that sum in a sandbox is worth. -/
noncomputable def Try.pinned : Pinned := { name := "ytpjihjfelobkoaa", sum := "0db37729debf00ff649f12b45daefc9a7605bf598432688a1c31c12331759744", checked := Try.checked }
namespace Rows
def none {H : Type} : Left H := { results := [], args := [] }

/-- 'prompterlaw02.CrcMixes': WHATEVER THE INPUT: true; the input reads as it did. -/
def crcMixesSpec : ChangeSpec := { name := "crcMixes", fn := fun _ => fun
  | [d1, d2, d3] => { results := [.lit (.bool true)], args := [d1, d2, d3] }
  | _ => none }
def crcMixesRow : OpenClaim := { program := "ytpjihjfelobkoaa", sum := "0db37729debf00ff649f12b45daefc9a7605bf598432688a1c31c12331759744", func := "prompter/prompterlaw02.CrcMixes", spec := "crcMixes", apart := false }
def CrcMixesSaid : Prop := crcMixesRow.holds Try.pinned (OpenSpec.ofChange crcMixesSpec)

/-- ITS FALSE NEIGHBOUR: 'it returns false'. Refute it at one input. -/
def crcMixesWrong : ChangeSpec := { name := "crcMixes", fn := fun _ => fun
  | [d1, d2, d3] => { results := [.lit (.bool false)], args := [d1, d2, d3] }
  | _ => none }
def CrcMixesWrongFalsely : Prop := crcMixesRow.holds Try.pinned (OpenSpec.ofChange crcMixesWrong)

/-- 'prompterlaw02.CrcAny': WHATEVER THE INPUT: true; the input reads as it did. -/
def crcAnySpec : ChangeSpec := { name := "crcAny", fn := fun _ => fun
  | [d] => { results := [.lit (.bool true)], args := [d] }
  | _ => none }
def crcAnyRow : OpenClaim := { program := "ytpjihjfelobkoaa", sum := "0db37729debf00ff649f12b45daefc9a7605bf598432688a1c31c12331759744", func := "prompter/prompterlaw02.CrcAny", spec := "crcAny", apart := false }
def CrcAnySaid : Prop := crcAnyRow.holds Try.pinned (OpenSpec.ofChange crcAnySpec)

/-- ITS FALSE NEIGHBOUR: 'it returns false'. Refute it at one input. -/
def crcAnyWrong : ChangeSpec := { name := "crcAny", fn := fun _ => fun
  | [d] => { results := [.lit (.bool false)], args := [d] }
  | _ => none }
def CrcAnyWrongFalsely : Prop := crcAnyRow.holds Try.pinned (OpenSpec.ofChange crcAnyWrong)

/-- 'prompterlaw02.CrcSums': WHATEVER THE INPUT: true; the input reads as it did. -/
def crcSumsSpec : ChangeSpec := { name := "crcSums", fn := fun _ => fun
  | [d1, d2, d3] => { results := [.lit (.bool true)], args := [d1, d2, d3] }
  | _ => none }
def crcSumsRow : OpenClaim := { program := "ytpjihjfelobkoaa", sum := "0db37729debf00ff649f12b45daefc9a7605bf598432688a1c31c12331759744", func := "prompter/prompterlaw02.CrcSums", spec := "crcSums", apart := false }
def CrcSumsSaid : Prop := crcSumsRow.holds Try.pinned (OpenSpec.ofChange crcSumsSpec)

/-- ITS FALSE NEIGHBOUR: 'it returns false'. Refute it at one input. -/
def crcSumsWrong : ChangeSpec := { name := "crcSums", fn := fun _ => fun
  | [d1, d2, d3] => { results := [.lit (.bool false)], args := [d1, d2, d3] }
  | _ => none }
def CrcSumsWrongFalsely : Prop := crcSumsRow.holds Try.pinned (OpenSpec.ofChange crcSumsWrong)

/-- 'prompterlaw02.CrcBursts': WHATEVER THE INPUT: true; the input reads as it did. -/
def crcBurstsSpec : ChangeSpec := { name := "crcBursts", fn := fun _ => fun
  | [d1, d2, d3] => { results := [.lit (.bool true)], args := [d1, d2, d3] }
  | _ => none }
def crcBurstsRow : OpenClaim := { program := "ytpjihjfelobkoaa", sum := "0db37729debf00ff649f12b45daefc9a7605bf598432688a1c31c12331759744", func := "prompter/prompterlaw02.CrcBursts", spec := "crcBursts", apart := false }
def CrcBurstsSaid : Prop := crcBurstsRow.holds Try.pinned (OpenSpec.ofChange crcBurstsSpec)

/-- ITS FALSE NEIGHBOUR: 'it returns false'. Refute it at one input. -/
def crcBurstsWrong : ChangeSpec := { name := "crcBursts", fn := fun _ => fun
  | [d1, d2, d3] => { results := [.lit (.bool false)], args := [d1, d2, d3] }
  | _ => none }
def CrcBurstsWrongFalsely : Prop := crcBurstsRow.holds Try.pinned (OpenSpec.ofChange crcBurstsWrong)

/- THE SECOND FORM. 'bulk': how many values and letters a reading holds, each counted each time it is reached (what is shared counts as often as it is met; a slice's spare places count too). A statement '..UptoSaid' is the law's where the arguments, and the package variables that the reading takes, are together of bulk at most 1048576: NARROWER than '..Said'. Prove '..Said' where nothing that the law and all that it calls make is longer than what came in: it says more and counts as full. Else prove '..UptoSaid'. A law counts once. -/
mutual
def uptoBulk {H : Type} : DataW H → Nat
  | .lit (.string bytes) => bytes.length + 1
  | .lit _ => 1
  | .nil => 1
  | .ptr d => uptoBulk d + 1
  | .slice elems spare => uptoBulkAll elems + uptoBulkAll spare + 1
  | .agg parts => uptoBulkAll parts + 1
  | .iface _ d => uptoBulk d + 1
  | .map entries => uptoBulkEntries entries + 1
  | .held _ => 1
def uptoBulkAll {H : Type} : List (DataW H) → Nat
  | [] => 0
  | d :: r => uptoBulk d + uptoBulkAll r
def uptoBulkEntries {H : Type} : List (Lit × DataW H) → Nat
  | [] => 0
  | x :: r => uptoBulkEntry x + uptoBulkEntries r
def uptoBulkEntry {H : Type} : Lit × DataW H → Nat
  | (.string bytes, d) => bytes.length + uptoBulk d + 1
  | (_, d) => uptoBulk d + 1
 end
def uptoSmall : (H : Type) → List (DataW H) → Bool := fun _ ds => decide (uptoBulkAll ds ≤ 1048576)
def OpenSpec.upto (s : _root_.Go.ChangeSpec) : _root_.Go.OpenSpec := { _root_.Go.OpenSpec.ofChange s with cond := some uptoSmall }

/-- 'prompterlaw02.CrcMixes', WHERE WHAT IT READS IS OF BULK AT MOST 1048576: true; the input reads as it did. -/
def crcMixesUptoRow : OpenClaim := { program := "ytpjihjfelobkoaa", sum := "0db37729debf00ff649f12b45daefc9a7605bf598432688a1c31c12331759744", func := "prompter/prompterlaw02.CrcMixes", spec := "crcMixes", apart := false, narrowed := true }
def CrcMixesUptoSaid : Prop := crcMixesUptoRow.holds Try.pinned (OpenSpec.upto crcMixesSpec)

/-- 'prompterlaw02.CrcAny', WHERE WHAT IT READS IS OF BULK AT MOST 1048576: true; the input reads as it did. -/
def crcAnyUptoRow : OpenClaim := { program := "ytpjihjfelobkoaa", sum := "0db37729debf00ff649f12b45daefc9a7605bf598432688a1c31c12331759744", func := "prompter/prompterlaw02.CrcAny", spec := "crcAny", apart := false, narrowed := true }
def CrcAnyUptoSaid : Prop := crcAnyUptoRow.holds Try.pinned (OpenSpec.upto crcAnySpec)

/-- 'prompterlaw02.CrcSums', WHERE WHAT IT READS IS OF BULK AT MOST 1048576: true; the input reads as it did. -/
def crcSumsUptoRow : OpenClaim := { program := "ytpjihjfelobkoaa", sum := "0db37729debf00ff649f12b45daefc9a7605bf598432688a1c31c12331759744", func := "prompter/prompterlaw02.CrcSums", spec := "crcSums", apart := false, narrowed := true }
def CrcSumsUptoSaid : Prop := crcSumsUptoRow.holds Try.pinned (OpenSpec.upto crcSumsSpec)

/-- 'prompterlaw02.CrcBursts', WHERE WHAT IT READS IS OF BULK AT MOST 1048576: true; the input reads as it did. -/
def crcBurstsUptoRow : OpenClaim := { program := "ytpjihjfelobkoaa", sum := "0db37729debf00ff649f12b45daefc9a7605bf598432688a1c31c12331759744", func := "prompter/prompterlaw02.CrcBursts", spec := "crcBursts", apart := false, narrowed := true }
def CrcBurstsUptoSaid : Prop := crcBurstsUptoRow.holds Try.pinned (OpenSpec.upto crcBurstsSpec)

end Rows
end Go.Proofs.Ytpjihjfelobkoaa
