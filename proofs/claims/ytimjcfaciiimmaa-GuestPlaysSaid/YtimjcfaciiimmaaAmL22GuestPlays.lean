/- The law GuestPlays of its package: for every input the call returns true, and the arguments read as before. -/
import Derived.Test.YtimjcfaciiimmaaRows
import Derived.Test.YtimjcfaciiimmaaAmC22GuestPlays
import Derived.WalkKit
import Derived.ProofKit
import Derived.OpenShut
import Derived.ShutString
import Derived.ChangeOld
import Derived.Below
import Derived.SizedLaws
set_option linter.unusedSimpArgs false
set_option linter.unusedVariables false
namespace Go.Proofs.Ytimjcfaciiimmaa.guestPlays
open Go.ChangeShapes Go.WideShapes Go.ChangeAt Go.RowKit Go.AM
open Go.ChangeMaps (open_string shut_string)
theorem own : ownKnob Try.prog.godebug = none := by kernel_rfl
theorem laidOut : laidOutB Try.prog = true := by kernel_rfl
theorem progOk : progOkB Try.prog = true := by kernel_rfl
/-- As many data as types. -/
theorem ds_of {H : Type} {enc : TypeId × Value → H} {W : World} {vs : List Value} {ds : List (DataW H)} {p : List MemPlace} (h : DataW.TrodAll enc Try.prog W 0 (fun _ => true) true [5, 69] vs ds p) : ∃ d0 d1, ds = [d0, d1] := by
  obtain ⟨v0, vs0, d0, ds0, p0, q0, _, rfl, _, _, r0⟩ := trodAll_cons h
  obtain ⟨v1, vs1, d1, ds1, p1, q1, _, rfl, _, _, r1⟩ := trodAll_cons r0
  obtain ⟨_, rfl, _⟩ := trodAll_nil r1
  exact ⟨_, _, rfl⟩
set_option maxRecDepth 100000 in
theorem lifted (os : Os) (started : os.Started) (H : Type) (enc : TypeId × Value → H) :
    ReturnsInHanded {} Try.checked os 6 .any (Rows.guestPlaysSpec.pre6 enc Try.prog Try.f6 Rows.guestPlaysRow.domain false) (Rows.guestPlaysSpec.post enc Try.prog Try.f6 false true false false) := by
  refine returnsInHanded_of_change_sized (C := Try.checked) own started (by kernel_rfl) Try.func6
    (ChangeSpec.witness6 (enc := enc) (C := Try.checked) false ⟨#[], #[(Go.Value.int Go.IntKind.u8 0), (Go.Value.slice Option.none 0 0)], []⟩ 8 (by kernel_rfl) (by kernel_rfl) (by kernel_rfl) (by kernel_rfl)) ?_
  intro W base args ds gs before hval0 hW hcnd hsz0 _
  have hsz : (DataW.weightsEach Try.prog (Try.f6.params.toList ++ Rows.guestPlaysSpec.plain.varTypes Try.prog) (ds ++ gs)).all (· ≤ reachBytes) = true := hsz0
  have hval : ∀ (j : Nat) t v, Try.f6.params[j]? = some t → args[j]? = some v → Value.okWide Try.prog W .any base t v := hval0
  have hW' := hW
  obtain ⟨p, q, hA0, hV, rfl, hfz, hnd⟩ := hW
  have hA : DataW.TrodAll enc Try.prog W 0 (fun _ => true) true [5, 69] args.toList ds p := by
    have := hA0
    rw [Try.params6] at this
    exact this
  rw [Try.params6] at hval hsz
  obtain ⟨rfl, rfl⟩ := trodVars_none hV
  have hsz2 : ∀ n ∈ DataW.weightsEach Try.prog [5, 69] ds, n ≤ reachBytes := by
    intro n hn
    have := List.all_eq_true.1 hsz n (by
      rw [List.append_nil]
      exact hn)
    simpa using this
  have bel0 := law_calls (k := 8) (f := 6) progOk hA (fun j t v h1 h2 => hval j t v (by simpa using h1) h2) (by kernel_rfl) hsz2 (fun m xs hd hl => guestPlays_true hd hl)
  obtain ⟨d0, d1, rfl⟩ := ds_of hA
  refine bel0.mono fun e W' ⟨he, bel⟩ => ?_
  subst he
  exact ⟨_, rfl, _, _, _, [], _, [], hW', trodAll_mk1 (shut_bool Try.underlying4 _), below_trodAll (ts := [5, 69]) laidOut (fun t ht => by
      simp only [List.mem_cons, List.not_mem_nil, or_false] at ht
      rcases ht with rfl | rfl <;> exact ⟨by kernel_rfl, of_decide_eq_true (by kernel_rfl)⟩) hA bel, rfl, bel.frame _, fun h => by cases h⟩

theorem over : Rows.guestPlaysRow.holds Try.pinned (OpenSpec.ofChange Rows.guestPlaysSpec) :=
  OpenClaim.holds_of_wide 6 Try.f6 rfl rfl rfl rfl rfl rfl rfl ⟨rfl, rfl, rfl, rfl, rfl⟩ rfl rfl rfl rfl rfl (by kernel_rfl) Try.func6 (by kernel_rfl)
    (of_decide_eq_true (by kernel_rfl)) (by unfold Func.isWrapper; first | (rw [if_pos (by decide +kernel)]; kernel_rfl) | (rw [if_neg (by decide +kernel)]; exact ⟨rfl, rfl⟩))
    (fun os started H enc _ => lifted os started H enc)
theorem proved : Rows.GuestPlaysSaid := over
end Go.Proofs.Ytimjcfaciiimmaa.guestPlays
namespace Go.Proofs.Ytimjcfaciiimmaa
/-- The row, under a short name, for the claim. -/
theorem guestPlays_holds : Rows.GuestPlaysSaid := guestPlays.proved
#print axioms guestPlays_holds
end Go.Proofs.Ytimjcfaciiimmaa
