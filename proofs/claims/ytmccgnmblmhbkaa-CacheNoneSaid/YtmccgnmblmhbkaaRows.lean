/-
  No cell of these rows narrows 'for every input' (looked for: loops, veiled, ifaces, maps, wideKeys, modest, calm, conditions, laid).
  DERIVED. THE GIVEN ROWS OF THIS SEAT. 4 by the template 'for every input the law returns true; each argument reads behind the call as it read before'; 0 by the template 'total and deterministic' (their statements: YtmccgnmblmhbkaaTotals.lean).
  GIVEN WITH THE SEED: the statements are not yours to turn. If you find one false, say at which input.
  Laid BY PROGRAM, IN A SANDBOX (cutbox-rows.mjs): the forced cells as the released guide's own fill.sh prints them over the translation b76938ea49a48976… (all of the seat's roots in one cut). By AI agents, Wed Nov 11 2026. No macro, syntax, notation, axiom, sorry.
-/
import Derived.Test.YtmccgnmblmhbkaaChecked
import GoSem.Claim
import GoSem.ClaimJoined
import GoSem.ClaimMapViews
import Derived.JoinedTies
import Derived.KernelRfl
namespace Go.Proofs.Ytmccgnmblmhbkaa
/- THE CELL 'sum', in the pinned program and in every row, IS THE sha256 OF THE DUMP (.gsa) THAT YtmccgnmblmhbkaaProg.lean LOADS. Nothing in Lean hashes anything: it is a label: what it is worth is what the hold of that sum in a sandbox is worth. -/
noncomputable def Try.pinned : Pinned := { name := "ytmccgnmblmhbkaa", sum := "b76938ea49a48976676a3ec2971b5c621e2d14a3add8cfa524c291fb2631f819", checked := Try.checked }
namespace Rows
def none {H : Type} : Left H := { results := [], args := [] }

/-- 'prompterlaw13.CacheTwice': WHATEVER THE INPUT: true; the input reads as it did. -/
def cacheTwiceSpec : ChangeSpec := { name := "cacheTwice", fn := fun _ => fun
  | [d1, d2, d3, d4, d5] => { results := [.lit (.bool true)], args := [d1, d2, d3, d4, d5] }
  | _ => none }
def cacheTwiceRow : OpenClaim := { program := "ytmccgnmblmhbkaa", sum := "b76938ea49a48976676a3ec2971b5c621e2d14a3add8cfa524c291fb2631f819", func := "prompter/prompterlaw13.CacheTwice", spec := "cacheTwice", plainKeys := false, apart := false }
def CacheTwiceSaid : Prop := cacheTwiceRow.holds Try.pinned (OpenSpec.ofChange cacheTwiceSpec)

/-- ITS FALSE NEIGHBOUR: 'it returns false'. Refute it at one input. -/
def cacheTwiceWrong : ChangeSpec := { name := "cacheTwice", fn := fun _ => fun
  | [d1, d2, d3, d4, d5] => { results := [.lit (.bool false)], args := [d1, d2, d3, d4, d5] }
  | _ => none }
def CacheTwiceWrongFalsely : Prop := cacheTwiceRow.holds Try.pinned (OpenSpec.ofChange cacheTwiceWrong)

/-- 'prompterlaw13.CacheOrder': WHATEVER THE INPUT: true; the input reads as it did. -/
def cacheOrderSpec : ChangeSpec := { name := "cacheOrder", fn := fun _ => fun
  | [d1, d2, d3] => { results := [.lit (.bool true)], args := [d1, d2, d3] }
  | _ => none }
def cacheOrderRow : OpenClaim := { program := "ytmccgnmblmhbkaa", sum := "b76938ea49a48976676a3ec2971b5c621e2d14a3add8cfa524c291fb2631f819", func := "prompter/prompterlaw13.CacheOrder", spec := "cacheOrder", plainKeys := false, apart := false }
def CacheOrderSaid : Prop := cacheOrderRow.holds Try.pinned (OpenSpec.ofChange cacheOrderSpec)

/-- ITS FALSE NEIGHBOUR: 'it returns false'. Refute it at one input. -/
def cacheOrderWrong : ChangeSpec := { name := "cacheOrder", fn := fun _ => fun
  | [d1, d2, d3] => { results := [.lit (.bool false)], args := [d1, d2, d3] }
  | _ => none }
def CacheOrderWrongFalsely : Prop := cacheOrderRow.holds Try.pinned (OpenSpec.ofChange cacheOrderWrong)

/-- 'prompterlaw13.CachePlays': WHATEVER THE INPUT: true; the input reads as it did. -/
def cachePlaysSpec : ChangeSpec := { name := "cachePlays", fn := fun _ => fun
  | [d1, d2] => { results := [.lit (.bool true)], args := [d1, d2] }
  | _ => none }
def cachePlaysRow : OpenClaim := { program := "ytmccgnmblmhbkaa", sum := "b76938ea49a48976676a3ec2971b5c621e2d14a3add8cfa524c291fb2631f819", func := "prompter/prompterlaw13.CachePlays", spec := "cachePlays", plainKeys := false, apart := false }
def CachePlaysSaid : Prop := cachePlaysRow.holds Try.pinned (OpenSpec.ofChange cachePlaysSpec)

/-- ITS FALSE NEIGHBOUR: 'it returns false'. Refute it at one input. -/
def cachePlaysWrong : ChangeSpec := { name := "cachePlays", fn := fun _ => fun
  | [d1, d2] => { results := [.lit (.bool false)], args := [d1, d2] }
  | _ => none }
def CachePlaysWrongFalsely : Prop := cachePlaysRow.holds Try.pinned (OpenSpec.ofChange cachePlaysWrong)

/-- 'prompterlaw13.CacheNone': WHATEVER THE INPUT: true; the input reads as it did. -/
def cacheNoneSpec : ChangeSpec := { name := "cacheNone", fn := fun _ => fun
  | [d1, d2, d3] => { results := [.lit (.bool true)], args := [d1, d2, d3] }
  | _ => none }
def cacheNoneRow : OpenClaim := { program := "ytmccgnmblmhbkaa", sum := "b76938ea49a48976676a3ec2971b5c621e2d14a3add8cfa524c291fb2631f819", func := "prompter/prompterlaw13.CacheNone", spec := "cacheNone", plainKeys := false, apart := false }
def CacheNoneSaid : Prop := cacheNoneRow.holds Try.pinned (OpenSpec.ofChange cacheNoneSpec)

/-- ITS FALSE NEIGHBOUR: 'it returns false'. Refute it at one input. -/
def cacheNoneWrong : ChangeSpec := { name := "cacheNone", fn := fun _ => fun
  | [d1, d2, d3] => { results := [.lit (.bool false)], args := [d1, d2, d3] }
  | _ => none }
def CacheNoneWrongFalsely : Prop := cacheNoneRow.holds Try.pinned (OpenSpec.ofChange cacheNoneWrong)

/- THE SECOND FORM. 'bulk': how many values and letters a reading holds, each counted each time it is reached (what is shared counts as often as it is met; a slice's spare places count too). A statement '..UptoSaid' is the law's where the arguments, and the package variables that the reading takes, are together of bulk at most 1048576: NARROWER than '..Said'. Prove '..Said' where nothing that the law and all that it calls make is longer than what came in: it says more and counts as full. Else prove '..UptoSaid'. A law counts once. -/
mutual
def uptoBulk {H : Type} : DataW H → Nat
  | .lit (.string bytes) => bytes.length + 1
  | .lit _ => 1
  | .nil => 1
  | .ptr d => uptoBulk d + 1
  | .slice elems spare => uptoBulkAll elems + uptoBulkAll spare + 1
  | .agg parts => uptoBulkAll parts + 1
  | .iface _ d => uptoBulk d + 1
  | .map entries => uptoBulkEntries entries + 1
  | .held _ => 1
def uptoBulkAll {H : Type} : List (DataW H) → Nat
  | [] => 0
  | d :: r => uptoBulk d + uptoBulkAll r
def uptoBulkEntries {H : Type} : List (Lit × DataW H) → Nat
  | [] => 0
  | x :: r => uptoBulkEntry x + uptoBulkEntries r
def uptoBulkEntry {H : Type} : Lit × DataW H → Nat
  | (.string bytes, d) => bytes.length + uptoBulk d + 1
  | (_, d) => uptoBulk d + 1
 end
def uptoSmall : (H : Type) → List (DataW H) → Bool := fun _ ds => decide (uptoBulkAll ds ≤ 1048576)
def OpenSpec.upto (s : _root_.Go.ChangeSpec) : _root_.Go.OpenSpec := { _root_.Go.OpenSpec.ofChange s with cond := some uptoSmall }

/-- 'prompterlaw13.CacheTwice', WHERE WHAT IT READS IS OF BULK AT MOST 1048576: true; the input reads as it did. -/
def cacheTwiceUptoRow : OpenClaim := { program := "ytmccgnmblmhbkaa", sum := "b76938ea49a48976676a3ec2971b5c621e2d14a3add8cfa524c291fb2631f819", func := "prompter/prompterlaw13.CacheTwice", spec := "cacheTwice", plainKeys := false, apart := false, narrowed := true }
def CacheTwiceUptoSaid : Prop := cacheTwiceUptoRow.holds Try.pinned (OpenSpec.upto cacheTwiceSpec)

/-- 'prompterlaw13.CacheOrder', WHERE WHAT IT READS IS OF BULK AT MOST 1048576: true; the input reads as it did. -/
def cacheOrderUptoRow : OpenClaim := { program := "ytmccgnmblmhbkaa", sum := "b76938ea49a48976676a3ec2971b5c621e2d14a3add8cfa524c291fb2631f819", func := "prompter/prompterlaw13.CacheOrder", spec := "cacheOrder", plainKeys := false, apart := false, narrowed := true }
def CacheOrderUptoSaid : Prop := cacheOrderUptoRow.holds Try.pinned (OpenSpec.upto cacheOrderSpec)

/-- 'prompterlaw13.CachePlays', WHERE WHAT IT READS IS OF BULK AT MOST 1048576: true; the input reads as it did. -/
def cachePlaysUptoRow : OpenClaim := { program := "ytmccgnmblmhbkaa", sum := "b76938ea49a48976676a3ec2971b5c621e2d14a3add8cfa524c291fb2631f819", func := "prompter/prompterlaw13.CachePlays", spec := "cachePlays", plainKeys := false, apart := false, narrowed := true }
def CachePlaysUptoSaid : Prop := cachePlaysUptoRow.holds Try.pinned (OpenSpec.upto cachePlaysSpec)

/-- 'prompterlaw13.CacheNone', WHERE WHAT IT READS IS OF BULK AT MOST 1048576: true; the input reads as it did. -/
def cacheNoneUptoRow : OpenClaim := { program := "ytmccgnmblmhbkaa", sum := "b76938ea49a48976676a3ec2971b5c621e2d14a3add8cfa524c291fb2631f819", func := "prompter/prompterlaw13.CacheNone", spec := "cacheNone", plainKeys := false, apart := false, narrowed := true }
def CacheNoneUptoSaid : Prop := cacheNoneUptoRow.holds Try.pinned (OpenSpec.upto cacheNoneSpec)

end Rows
end Go.Proofs.Ytmccgnmblmhbkaa
