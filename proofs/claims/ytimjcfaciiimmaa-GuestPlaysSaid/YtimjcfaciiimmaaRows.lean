/-
  No cell of these rows narrows 'for every input' (looked for: loops, veiled, ifaces, maps, wideKeys, modest, calm, conditions, laid).
  DERIVED. THE GIVEN ROWS OF THIS SEAT. 4 by the template 'for every input the law returns true; each argument reads behind the call as it read before'; 0 by the template 'total and deterministic' (their statements: YtimjcfaciiimmaaTotals.lean).
  GIVEN WITH THE SEED: the statements are not yours to turn. If you find one false, say at which input.
  Laid BY PROGRAM, IN A SANDBOX (cutbox-rows.mjs): the forced cells as the released guide's own fill.sh prints them over the translation 52043f8472c5103b… (all of the seat's roots in one cut). By AI agents, Wed Nov 11 2026. No macro, syntax, notation, axiom, sorry.
-/
import Derived.Test.YtimjcfaciiimmaaChecked
import GoSem.Claim
import GoSem.ClaimJoined
import GoSem.ClaimMapViews
import Derived.JoinedTies
import Derived.KernelRfl
namespace Go.Proofs.Ytimjcfaciiimmaa
/- THE CELL 'sum', in the pinned program and in every row, IS THE sha256 OF THE DUMP (.gsa) THAT YtimjcfaciiimmaaProg.lean LOADS. Nothing in Lean hashes anything: it is a label: what it is worth is what the hold of that sum in a sandbox is worth. -/
noncomputable def Try.pinned : Pinned := { name := "ytimjcfaciiimmaa", sum := "52043f8472c5103bc4809ea80c1bb3530e1ed77ed597ab9127038271e2b626c1", checked := Try.checked }
namespace Rows
def none {H : Type} : Left H := { results := [], args := [] }

/-- 'prompterlaw22.GuestLate': WHATEVER THE INPUT: true; the input reads as it did. -/
def guestLateSpec : ChangeSpec := { name := "guestLate", fn := fun _ => fun
  | [d1, d2, d3] => { results := [.lit (.bool true)], args := [d1, d2, d3] }
  | _ => none }
def guestLateRow : OpenClaim := { program := "ytimjcfaciiimmaa", sum := "52043f8472c5103bc4809ea80c1bb3530e1ed77ed597ab9127038271e2b626c1", func := "prompter/prompterlaw22.GuestLate", spec := "guestLate", apart := false }
def GuestLateSaid : Prop := guestLateRow.holds Try.pinned (OpenSpec.ofChange guestLateSpec)

/-- ITS FALSE NEIGHBOUR: 'it returns false'. Refute it at one input. -/
def guestLateWrong : ChangeSpec := { name := "guestLate", fn := fun _ => fun
  | [d1, d2, d3] => { results := [.lit (.bool false)], args := [d1, d2, d3] }
  | _ => none }
def GuestLateWrongFalsely : Prop := guestLateRow.holds Try.pinned (OpenSpec.ofChange guestLateWrong)

/-- 'prompterlaw22.GuestFull': WHATEVER THE INPUT: true; the input reads as it did. -/
def guestFullSpec : ChangeSpec := { name := "guestFull", fn := fun _ => fun
  | [d1, d2] => { results := [.lit (.bool true)], args := [d1, d2] }
  | _ => none }
def guestFullRow : OpenClaim := { program := "ytimjcfaciiimmaa", sum := "52043f8472c5103bc4809ea80c1bb3530e1ed77ed597ab9127038271e2b626c1", func := "prompter/prompterlaw22.GuestFull", spec := "guestFull", apart := false }
def GuestFullSaid : Prop := guestFullRow.holds Try.pinned (OpenSpec.ofChange guestFullSpec)

/-- ITS FALSE NEIGHBOUR: 'it returns false'. Refute it at one input. -/
def guestFullWrong : ChangeSpec := { name := "guestFull", fn := fun _ => fun
  | [d1, d2] => { results := [.lit (.bool false)], args := [d1, d2] }
  | _ => none }
def GuestFullWrongFalsely : Prop := guestFullRow.holds Try.pinned (OpenSpec.ofChange guestFullWrong)

/-- 'prompterlaw22.GuestOnce': WHATEVER THE INPUT: true; the input reads as it did. -/
def guestOnceSpec : ChangeSpec := { name := "guestOnce", fn := fun _ => fun
  | [d1, d2, d3, d4] => { results := [.lit (.bool true)], args := [d1, d2, d3, d4] }
  | _ => none }
def guestOnceRow : OpenClaim := { program := "ytimjcfaciiimmaa", sum := "52043f8472c5103bc4809ea80c1bb3530e1ed77ed597ab9127038271e2b626c1", func := "prompter/prompterlaw22.GuestOnce", spec := "guestOnce", unfollowed := true, recurses := true, apart := false }
def GuestOnceSaid : Prop := guestOnceRow.holds Try.pinned (OpenSpec.ofChange guestOnceSpec)

/-- ITS FALSE NEIGHBOUR: 'it returns false'. Refute it at one input. -/
def guestOnceWrong : ChangeSpec := { name := "guestOnce", fn := fun _ => fun
  | [d1, d2, d3, d4] => { results := [.lit (.bool false)], args := [d1, d2, d3, d4] }
  | _ => none }
def GuestOnceWrongFalsely : Prop := guestOnceRow.holds Try.pinned (OpenSpec.ofChange guestOnceWrong)

/-- 'prompterlaw22.GuestPlays': WHATEVER THE INPUT: true; the input reads as it did. -/
def guestPlaysSpec : ChangeSpec := { name := "guestPlays", fn := fun _ => fun
  | [d1, d2] => { results := [.lit (.bool true)], args := [d1, d2] }
  | _ => none }
def guestPlaysRow : OpenClaim := { program := "ytimjcfaciiimmaa", sum := "52043f8472c5103bc4809ea80c1bb3530e1ed77ed597ab9127038271e2b626c1", func := "prompter/prompterlaw22.GuestPlays", spec := "guestPlays", unfollowed := true, recurses := true, apart := false }
def GuestPlaysSaid : Prop := guestPlaysRow.holds Try.pinned (OpenSpec.ofChange guestPlaysSpec)

/-- ITS FALSE NEIGHBOUR: 'it returns false'. Refute it at one input. -/
def guestPlaysWrong : ChangeSpec := { name := "guestPlays", fn := fun _ => fun
  | [d1, d2] => { results := [.lit (.bool false)], args := [d1, d2] }
  | _ => none }
def GuestPlaysWrongFalsely : Prop := guestPlaysRow.holds Try.pinned (OpenSpec.ofChange guestPlaysWrong)

/- THE SECOND FORM. 'bulk': how many values and letters a reading holds, each counted each time it is reached (what is shared counts as often as it is met; a slice's spare places count too). A statement '..UptoSaid' is the law's where the arguments, and the package variables that the reading takes, are together of bulk at most 1048576: NARROWER than '..Said'. Prove '..Said' where nothing that the law and all that it calls make is longer than what came in: it says more and counts as full. Else prove '..UptoSaid'. A law counts once. -/
mutual
def uptoBulk {H : Type} : DataW H → Nat
  | .lit (.string bytes) => bytes.length + 1
  | .lit _ => 1
  | .nil => 1
  | .ptr d => uptoBulk d + 1
  | .slice elems spare => uptoBulkAll elems + uptoBulkAll spare + 1
  | .agg parts => uptoBulkAll parts + 1
  | .iface _ d => uptoBulk d + 1
  | .map entries => uptoBulkEntries entries + 1
  | .held _ => 1
def uptoBulkAll {H : Type} : List (DataW H) → Nat
  | [] => 0
  | d :: r => uptoBulk d + uptoBulkAll r
def uptoBulkEntries {H : Type} : List (Lit × DataW H) → Nat
  | [] => 0
  | x :: r => uptoBulkEntry x + uptoBulkEntries r
def uptoBulkEntry {H : Type} : Lit × DataW H → Nat
  | (.string bytes, d) => bytes.length + uptoBulk d + 1
  | (_, d) => uptoBulk d + 1
 end
def uptoSmall : (H : Type) → List (DataW H) → Bool := fun _ ds => decide (uptoBulkAll ds ≤ 1048576)
def OpenSpec.upto (s : _root_.Go.ChangeSpec) : _root_.Go.OpenSpec := { _root_.Go.OpenSpec.ofChange s with cond := some uptoSmall }

/-- 'prompterlaw22.GuestLate', WHERE WHAT IT READS IS OF BULK AT MOST 1048576: true; the input reads as it did. -/
def guestLateUptoRow : OpenClaim := { program := "ytimjcfaciiimmaa", sum := "52043f8472c5103bc4809ea80c1bb3530e1ed77ed597ab9127038271e2b626c1", func := "prompter/prompterlaw22.GuestLate", spec := "guestLate", apart := false, narrowed := true }
def GuestLateUptoSaid : Prop := guestLateUptoRow.holds Try.pinned (OpenSpec.upto guestLateSpec)

/-- 'prompterlaw22.GuestFull', WHERE WHAT IT READS IS OF BULK AT MOST 1048576: true; the input reads as it did. -/
def guestFullUptoRow : OpenClaim := { program := "ytimjcfaciiimmaa", sum := "52043f8472c5103bc4809ea80c1bb3530e1ed77ed597ab9127038271e2b626c1", func := "prompter/prompterlaw22.GuestFull", spec := "guestFull", apart := false, narrowed := true }
def GuestFullUptoSaid : Prop := guestFullUptoRow.holds Try.pinned (OpenSpec.upto guestFullSpec)

/-- 'prompterlaw22.GuestOnce', WHERE WHAT IT READS IS OF BULK AT MOST 1048576: true; the input reads as it did. -/
def guestOnceUptoRow : OpenClaim := { program := "ytimjcfaciiimmaa", sum := "52043f8472c5103bc4809ea80c1bb3530e1ed77ed597ab9127038271e2b626c1", func := "prompter/prompterlaw22.GuestOnce", spec := "guestOnce", unfollowed := true, recurses := true, apart := false, narrowed := true }
def GuestOnceUptoSaid : Prop := guestOnceUptoRow.holds Try.pinned (OpenSpec.upto guestOnceSpec)

/-- 'prompterlaw22.GuestPlays', WHERE WHAT IT READS IS OF BULK AT MOST 1048576: true; the input reads as it did. -/
def guestPlaysUptoRow : OpenClaim := { program := "ytimjcfaciiimmaa", sum := "52043f8472c5103bc4809ea80c1bb3530e1ed77ed597ab9127038271e2b626c1", func := "prompter/prompterlaw22.GuestPlays", spec := "guestPlays", unfollowed := true, recurses := true, apart := false, narrowed := true }
def GuestPlaysUptoSaid : Prop := guestPlaysUptoRow.holds Try.pinned (OpenSpec.upto guestPlaysSpec)

end Rows
end Go.Proofs.Ytimjcfaciiimmaa
