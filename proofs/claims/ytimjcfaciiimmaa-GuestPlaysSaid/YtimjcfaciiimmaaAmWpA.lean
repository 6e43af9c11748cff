/- Runs of the abstract machine: more fuel changes nothing. -/
import Derived.Test.YtimjcfaciiimmaaAmBridge
set_option linter.unusedSimpArgs false
set_option linter.unusedVariables false
namespace Go.AM
open Go
variable {P : Program}

def More (c d : CallF) : Prop := ∀ f xs m r, c f xs m = some r → d f xs m = some r

theorem stepOp_more {c d : CallF} (h : More c d) {env : Env} {o : Op} {m : Mem} {r : Value × Mem} (e : stepOp P c env o m = some r) : stepOp P d env o m = some r := by
  cases o
  case call q =>
    obtain ⟨callee, args, argTypes⟩ := q
    simp only [stepOp] at e ⊢
    cases hx : evs env args.toList with
    | none => rw [hx] at e; cases e
    | some xs =>
      rw [hx] at e
      dsimp only at e ⊢
      cases callee with
      | builtin b => exact e
      | invoke r n => exact e
      | value f =>
        dsimp only at e ⊢
        split at e
        · split at e
          · rename_i h0
            rw [if_pos h0]
            exact h _ _ _ _ e
          · cases e
        · cases e
  all_goals exact e

theorem runOps_more {c d : CallF} (h : More c d) {ops : Array Oper} : ∀ {l : List Nat} {env : Env} {m : Mem} {r : Env × Mem}, runOps P c ops l env m = some r → runOps P d ops l env m = some r
  | [], _, _, _, e => e
  | i :: l, env, m, r, e => by
    simp only [runOps] at e ⊢
    split at e
    · cases e
    · split at e
      · split at e
        · rename_i hs
          simp only [stepOp_more h hs]
          exact runOps_more h e
        · cases e
      · exact runOps_more h e
      · cases e

theorem traceOps_more {c d : CallF} (h : More c d) {ops : Array Oper} : ∀ {l : List Nat} {env : Env} {m : Mem} {r : Tr × Env × Mem}, traceOps P c ops l env m = some r → traceOps P d ops l env m = some r
  | [], _, _, _, e => e
  | i :: l, env, m, r, e => by
    simp only [traceOps] at e ⊢
    split at e
    · cases e
    · split at e
      · split at e
        · rename_i hs
          simp only [stepOp_more h hs]
          split at e
          · rename_i ht
            simp only [traceOps_more h ht]
            exact e
          · cases e
        · cases e
      · split at e
        · rename_i ht
          simp only [traceOps_more h ht]
          exact e
        · cases e
      · cases e

theorem runRegion_more {c d : CallF} (h : More c d) {ops : Array Oper} {draw : Bool} {env : Env} {m : Mem} {r : Env × Mem} (e : runRegion P c ops draw env m = some r) : runRegion P d ops draw env m = some r := by
  unfold runRegion at e ⊢
  split at e
  · exact runOps_more h e
  · split at e
    · rename_i hw
      rw [if_pos hw]
      exact runOps_more h e
    · rename_i hw
      rw [if_neg hw]
      split at e
      · rename_i ht
        simp only [traceOps_more h ht]
        exact e
      · cases e

theorem runCode_more {c d : CallF} (h : More c d) : ∀ (n k : Nat) {x : Code} {env : Env} {m : Mem} {r : Ex × Env × Mem}, n ≤ k → runCode P c n x env m = some r → runCode P d k x env m = some r
  | 0, _, _, _, _, _, _, e => by cases e
  | n + 1, 0, _, _, _, _, hk, _ => by omega
  | n + 1, k + 1, x, env, m, r, hk, e => by
    have ih := fun {x : Code} {env : Env} {m : Mem} {r : Ex × Env × Mem} => runCode_more h n k (x := x) (env := env) (m := m) (r := r) (by omega)
    cases x
    case skip => exact e
    case label => exact e
    case exit => exact e
    case ret => exact e
    case region id ops draw =>
      simp only [runCode] at e ⊢
      split at e
      · rename_i hr
        simp only [runRegion_more h hr]
        exact e
      · cases e
    case seq a b =>
      simp only [runCode] at e ⊢
      split at e
      · rename_i h1
        simp only [ih h1]
        exact ih e
      · rename_i hne
        rw [ih e]
        split
        · rename_i h2
          rw [h2] at e
          exact (hne _ _ e).elim
        · rfl
    case cond v a b =>
      simp only [runCode] at e ⊢
      split at e
      · exact ih e
      · exact ih e
      · cases e
    case block id b =>
      simp only [runCode] at e ⊢
      split at e
      · rename_i h1
        simp only [ih h1]
        exact e
      · rename_i hne
        rw [ih e]
        split
        · rename_i h2
          rw [h2] at e
          exact (hne _ _ _ e).elim
        · rfl
    case loop b =>
      simp only [runCode] at e ⊢
      split at e
      · rename_i h1
        simp only [ih h1]
        exact ih e
      · rename_i hne
        rw [ih e]
        split
        · rename_i h2
          rw [h2] at e
          exact (hne _ _ e).elim
        · rfl
    case scope b =>
      simp only [runCode] at e ⊢
      exact ih e
    all_goals (cases e)

theorem callF_more : ∀ (n k : Nat), n ≤ k → More (callF P n) (callF P k)
  | 0, _, _ => fun _ _ _ _ e => by cases e
  | n + 1, 0, h => by omega
  | n + 1, k + 1, h => fun f xs m r e => by
    have ih := callF_more n k (by omega)
    simp only [callF] at e ⊢
    split at e
    · cases e
    · split at e
      · cases e
      · split at e
        · cases e
        · rename_i hname
          rw [if_neg hname]
          split at e
          · cases e
          · rename_i hne hrun
            simp only [runCode_more ih n k (by omega) hrun]
            exact e
          · cases e
end Go.AM
