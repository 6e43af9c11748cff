/- Runs of the abstract machine, step by step: laws for proofs by hand. -/
import Derived.Test.YtbdnpgomapanmaaAmBridge
set_option linter.unusedSimpArgs false
set_option linter.unusedVariables false
namespace Go.AM
open Go
variable {P : Program}

def More (c d : CallF) : Prop := ∀ f xs m r, c f xs m = some r → d f xs m = some r

theorem stepOp_more {c d : CallF} (h : More c d) {env : Env} {o : Op} {m : Mem} {r : Value × Mem} (e : stepOp P c env o m = some r) : stepOp P d env o m = some r := by
  cases o
  case call q =>
    obtain ⟨callee, args, argTypes⟩ := q
    simp only [stepOp] at e ⊢
    cases hx : evs env args.toList with
    | none => rw [hx] at e; cases e
    | some xs =>
      rw [hx] at e
      dsimp only at e ⊢
      cases callee with
      | builtin b => exact e
      | invoke r n => exact e
      | value f =>
        dsimp only at e ⊢
        split at e
        · split at e
          · rename_i h0
            rw [if_pos h0]
            exact h _ _ _ _ e
          · cases e
        · cases e
  all_goals exact e

theorem runOps_more {c d : CallF} (h : More c d) {ops : Array Oper} : ∀ {l : List Nat} {env : Env} {m : Mem} {r : Env × Mem}, runOps P c ops l env m = some r → runOps P d ops l env m = some r
  | [], _, _, _, e => e
  | i :: l, env, m, r, e => by
    simp only [runOps] at e ⊢
    split at e
    · cases e
    · split at e
      · split at e
        · rename_i hs
          simp only [stepOp_more h hs]
          exact runOps_more h e
        · cases e
      · exact runOps_more h e
      · cases e

theorem traceOps_more {c d : CallF} (h : More c d) {ops : Array Oper} : ∀ {l : List Nat} {env : Env} {m : Mem} {r : Tr × Env × Mem}, traceOps P c ops l env m = some r → traceOps P d ops l env m = some r
  | [], _, _, _, e => e
  | i :: l, env, m, r, e => by
    simp only [traceOps] at e ⊢
    split at e
    · cases e
    · split at e
      · split at e
        · rename_i hs
          simp only [stepOp_more h hs]
          split at e
          · rename_i ht
            simp only [traceOps_more h ht]
            exact e
          · cases e
        · cases e
      · split at e
        · rename_i ht
          simp only [traceOps_more h ht]
          exact e
        · cases e
      · cases e

theorem runRegion_more {c d : CallF} (h : More c d) {ops : Array Oper} {draw : Bool} {env : Env} {m : Mem} {r : Env × Mem} (e : runRegion P c ops draw env m = some r) : runRegion P d ops draw env m = some r := by
  unfold runRegion at e ⊢
  split at e
  · exact runOps_more h e
  · split at e
    · rename_i hw
      rw [if_pos hw]
      exact runOps_more h e
    · rename_i hw
      rw [if_neg hw]
      split at e
      · rename_i ht
        simp only [traceOps_more h ht]
        exact e
      · cases e

theorem runCode_more {c d : CallF} (h : More c d) : ∀ (n k : Nat) {x : Code} {env : Env} {m : Mem} {r : Ex × Env × Mem}, n ≤ k → runCode P c n x env m = some r → runCode P d k x env m = some r
  | 0, _, _, _, _, _, _, e => by cases e
  | n + 1, 0, _, _, _, _, hk, _ => by omega
  | n + 1, k + 1, x, env, m, r, hk, e => by
    have ih := fun {x : Code} {env : Env} {m : Mem} {r : Ex × Env × Mem} => runCode_more h n k (x := x) (env := env) (m := m) (r := r) (by omega)
    cases x
    case skip => exact e
    case label => exact e
    case exit => exact e
    case ret => exact e
    case region id ops draw =>
      simp only [runCode] at e ⊢
      split at e
      · rename_i hr
        simp only [runRegion_more h hr]
        exact e
      · cases e
    case seq a b =>
      simp only [runCode] at e ⊢
      split at e
      · rename_i h1
        simp only [ih h1]
        exact ih e
      · rename_i hne
        rw [ih e]
        split
        · rename_i h2
          rw [h2] at e
          exact (hne _ _ e).elim
        · rfl
    case cond v a b =>
      simp only [runCode] at e ⊢
      split at e
      · exact ih e
      · exact ih e
      · cases e
    case block id b =>
      simp only [runCode] at e ⊢
      split at e
      · rename_i h1
        simp only [ih h1]
        exact e
      · rename_i hne
        rw [ih e]
        split
        · rename_i h2
          rw [h2] at e
          exact (hne _ _ _ e).elim
        · rfl
    case loop b =>
      simp only [runCode] at e ⊢
      split at e
      · rename_i h1
        simp only [ih h1]
        exact ih e
      · rename_i hne
        rw [ih e]
        split
        · rename_i h2
          rw [h2] at e
          exact (hne _ _ e).elim
        · rfl
    case scope b =>
      simp only [runCode] at e ⊢
      exact ih e
    all_goals (cases e)

theorem callF_more : ∀ (n k : Nat), n ≤ k → More (callF P n) (callF P k)
  | 0, _, _ => fun _ _ _ _ e => by cases e
  | n + 1, 0, h => by omega
  | n + 1, k + 1, h => fun f xs m r e => by
    have ih := callF_more n k (by omega)
    simp only [callF] at e ⊢
    split at e
    · cases e
    · split at e
      · cases e
      · split at e
        · cases e
        · rename_i hname
          rw [if_neg hname]
          split at e
          · cases e
          · rename_i hne hrun
            simp only [runCode_more ih n k (by omega) hrun]
            exact e
          · cases e

/-- A call comes to K. -/
def Ret (P : Program) (f : FuncId) (xs : List Value) (m : Mem) (K : Value → Mem → Prop) : Prop := ∃ n v m', callF P n f xs m = some (v, m') ∧ K v m'
/-- Code comes to K. -/
def CW (P : Program) (c : Code) (K : Ex → Env → Mem → Prop) (env : Env) (m : Mem) : Prop := ∃ n ex e m', runCode P (callF P n) n c env m = some (ex, e, m') ∧ K ex e m'
/-- Operations come to K. -/
def OW (P : Program) (ops : Array Oper) (l : List Nat) (K : Env → Mem → Prop) (env : Env) (m : Mem) : Prop := ∃ n e m', runOps P (callF P n) ops l env m = some (e, m') ∧ K e m'
/-- An operation comes to K. -/
def SW (P : Program) (env : Env) (o : Op) (m : Mem) (K : Value → Mem → Prop) : Prop := ∃ n v m', stepOp P (callF P n) env o m = some (v, m') ∧ K v m'

theorem Ret.mono {f : FuncId} {xs : List Value} {m : Mem} {K K' : Value → Mem → Prop} (h : Ret P f xs m K) (hk : ∀ v m', K v m' → K' v m') : Ret P f xs m K' :=
  let ⟨n, v, m', e, k⟩ := h; ⟨n, v, m', e, hk v m' k⟩

theorem CW.mono {c : Code} {env : Env} {m : Mem} {K K' : Ex → Env → Mem → Prop} (h : CW P c K env m) (hk : ∀ x e m', K x e m' → K' x e m') : CW P c K' env m :=
  let ⟨n, x, e, m', h1, k⟩ := h; ⟨n, x, e, m', h1, hk x e m' k⟩

theorem cw_skip {K : Ex → Env → Mem → Prop} {env : Env} {m : Mem} (h : K .normal env m) : CW P .skip K env m := ⟨1, _, _, _, rfl, h⟩
theorem cw_label {l : Nat} {K : Ex → Env → Mem → Prop} {env : Env} {m : Mem} (h : K .normal env m) : CW P (.label l) K env m := ⟨1, _, _, _, rfl, h⟩
theorem cw_exit {id : Nat} {K : Ex → Env → Mem → Prop} {env : Env} {m : Mem} (h : K (.exit id) env m) : CW P (.exit id) K env m := ⟨1, _, _, _, rfl, h⟩
theorem cw_ret {K : Ex → Env → Mem → Prop} {env : Env} {m : Mem} (h : K .ret env m) : CW P .ret K env m := ⟨1, _, _, _, rfl, h⟩

def Kseq (P : Program) (b : Code) (K : Ex → Env → Mem → Prop) : Ex → Env → Mem → Prop
  | .normal, e, m => CW P b K e m
  | x, e, m => K x e m

theorem cw_seq {a b : Code} {K : Ex → Env → Mem → Prop} {env : Env} {m : Mem} (h : CW P a (Kseq P b K) env m) : CW P (.seq a b) K env m := by
  obtain ⟨n, x, e, m1, h1, k⟩ := h
  cases x with
  | normal =>
    obtain ⟨n2, x2, e2, m2, h2, k2⟩ := k
    refine ⟨max n n2 + 1, x2, e2, m2, ?_, k2⟩
    simp only [runCode, runCode_more (callF_more n (max n n2 + 1) (by omega)) n (max n n2) (by omega) h1]
    exact runCode_more (callF_more n2 (max n n2 + 1) (by omega)) n2 (max n n2) (by omega) h2
  | exit i =>
    refine ⟨n + 1, _, e, m1, ?_, k⟩
    simp only [runCode, runCode_more (callF_more n (n + 1) (by omega)) n n (by omega) h1]
  | ret =>
    refine ⟨n + 1, _, e, m1, ?_, k⟩
    simp only [runCode, runCode_more (callF_more n (n + 1) (by omega)) n n (by omega) h1]

theorem cw_scope {a : Code} {K : Ex → Env → Mem → Prop} {env : Env} {m : Mem} (h : CW P a K env m) : CW P (.scope a) K env m := by
  obtain ⟨n, x, e, m1, h1, k⟩ := h
  exact ⟨n + 1, x, e, m1, by simp only [runCode, runCode_more (callF_more n (n + 1) (by omega)) n n (by omega) h1], k⟩

theorem cw_true {c : Operand} {a b : Code} {K : Ex → Env → Mem → Prop} {env : Env} {m : Mem} (hc : ev1 env c = some (.bool true)) (h : CW P a K env m) : CW P (.cond c a b) K env m := by
  obtain ⟨n, x, e, m1, h1, k⟩ := h
  exact ⟨n + 1, x, e, m1, by simp only [runCode, hc, runCode_more (callF_more n (n + 1) (by omega)) n n (by omega) h1], k⟩

theorem cw_false {c : Operand} {a b : Code} {K : Ex → Env → Mem → Prop} {env : Env} {m : Mem} (hc : ev1 env c = some (.bool false)) (h : CW P b K env m) : CW P (.cond c a b) K env m := by
  obtain ⟨n, x, e, m1, h1, k⟩ := h
  exact ⟨n + 1, x, e, m1, by simp only [runCode, hc, runCode_more (callF_more n (n + 1) (by omega)) n n (by omega) h1], k⟩

theorem cw_cond {c : Operand} {t : Bool} {a b : Code} {K : Ex → Env → Mem → Prop} {env : Env} {m : Mem} (hc : ev1 env c = some (.bool t)) (ha : t = true → CW P a K env m) (hb : t = false → CW P b K env m) : CW P (.cond c a b) K env m := by
  cases t
  · exact cw_false hc (hb rfl)
  · exact cw_true hc (ha rfl)

def Kblock (id : Nat) (K : Ex → Env → Mem → Prop) : Ex → Env → Mem → Prop
  | .exit i, e, m => if i = id then K .normal e m else K (.exit i) e m
  | x, e, m => K x e m

theorem cw_block {id : Nat} {a : Code} {K : Ex → Env → Mem → Prop} {env : Env} {m : Mem} (h : CW P a (Kblock id K) env m) : CW P (.block id a) K env m := by
  obtain ⟨n, x, e, m1, h1, k⟩ := h
  have h2 := runCode_more (callF_more n (n + 1) (by omega)) n n (by omega) h1
  cases x with
  | normal => exact ⟨n + 1, _, e, m1, by simp only [runCode, h2], k⟩
  | ret => exact ⟨n + 1, _, e, m1, by simp only [runCode, h2], k⟩
  | exit i =>
    simp only [Kblock] at k
    by_cases hi : i = id
    · rw [if_pos hi] at k
      exact ⟨n + 1, .normal, e, m1, by simp only [runCode, h2, if_pos hi], k⟩
    · rw [if_neg hi] at k
      exact ⟨n + 1, .exit i, e, m1, by simp only [runCode, h2, if_neg hi], k⟩

def Kloop (I : Env → Mem → Prop) (K : Ex → Env → Mem → Prop) : Ex → Env → Mem → Prop
  | .normal, e, m => I e m
  | x, e, m => K x e m

/-- A loop: a relation that bears a number, which every round lowers. -/
theorem cw_loop {a : Code} {K : Ex → Env → Mem → Prop} (I : Nat → Env → Mem → Prop) (round : ∀ k env m, I k env m → CW P a (Kloop (fun e m' => ∃ j, j < k ∧ I j e m') K) env m) : ∀ (k : Nat) {env : Env} {m : Mem}, I k env m → CW P (.loop a) K env m := by
  intro k
  induction k using Nat.strongRecOn with
  | _ k ih =>
    intro env m h
    obtain ⟨n, x, e, m1, h1, kk⟩ := round k env m h
    cases x with
    | normal =>
      obtain ⟨j, hj, hI⟩ := kk
      obtain ⟨n2, x2, e2, m2, h2, k2⟩ := ih j hj hI
      refine ⟨max n n2 + 1, x2, e2, m2, ?_, k2⟩
      simp only [runCode, runCode_more (callF_more n (max n n2 + 1) (by omega)) n (max n n2) (by omega) h1]
      exact runCode_more (callF_more n2 (max n n2 + 1) (by omega)) n2 (max n n2) (by omega) h2
    | exit i =>
      refine ⟨n + 1, _, e, m1, ?_, kk⟩
      simp only [runCode, runCode_more (callF_more n (n + 1) (by omega)) n n (by omega) h1]
    | ret =>
      refine ⟨n + 1, _, e, m1, ?_, kk⟩
      simp only [runCode, runCode_more (callF_more n (n + 1) (by omega)) n n (by omega) h1]

theorem cw_region {id : Nat} {ops : Array Oper} {K : Ex → Env → Mem → Prop} {env : Env} {m : Mem} (h : OW P ops (List.range ops.size) (K .normal) env m) : CW P (.region id ops false) K env m := by
  obtain ⟨n, e, m1, h1, k⟩ := h
  refine ⟨n + 1, .normal, e, m1, ?_, k⟩
  simp only [runCode, runRegion, runOps_more (callF_more n (n + 1) (by omega)) h1]

/-- .. whose order is open, but each reading and each writing stand in an order. -/
theorem cw_region_still {id : Nat} {ops : Array Oper} {draw : Bool} {K : Ex → Env → Mem → Prop} {env : Env} {m : Mem} (hw : tidyB P ops (Region.before ops) = true) (h : OW P ops (List.range ops.size) (K .normal) env m) : CW P (.region id ops draw) K env m := by
  obtain ⟨n, e, m1, h1, k⟩ := h
  refine ⟨n + 1, .normal, e, m1, ?_, k⟩
  cases draw <;> simp only [runCode, runRegion, hw, if_true, runOps_more (callF_more n (n + 1) (by omega)) h1]

theorem ow_nil {ops : Array Oper} {K : Env → Mem → Prop} {env : Env} {m : Mem} (h : K env m) : OW P ops [] K env m := ⟨0, env, m, rfl, h⟩

theorem ow_cons {ops : Array Oper} {i : Nat} {l : List Nat} {o : Oper} {K : Env → Mem → Prop} {env : Env} {m : Mem} (ho : ops[i]? = some o) (hg : guardOf ops env o = some true) (h : SW P env o.op m fun v m1 => OW P ops l K (env.put o.dst v) m1) : OW P ops (i :: l) K env m := by
  obtain ⟨n, v, m1, h1, n2, e, m2, h2, k⟩ := h
  refine ⟨max n n2, e, m2, ?_, k⟩
  simp only [runOps, ho, hg, stepOp_more (callF_more n (max n n2) (by omega)) h1]
  exact runOps_more (callF_more n2 (max n n2) (by omega)) h2

theorem ow_skip {ops : Array Oper} {i : Nat} {l : List Nat} {o : Oper} {K : Env → Mem → Prop} {env : Env} {m : Mem} (ho : ops[i]? = some o) (hg : guardOf ops env o = some false) (h : OW P ops l K (env.put o.dst undef) m) : OW P ops (i :: l) K env m := by
  obtain ⟨n2, e, m2, h2, k⟩ := h
  refine ⟨n2, e, m2, ?_, k⟩
  simp only [runOps, ho, hg]
  exact h2

theorem sw_op {env : Env} {o : Op} {m m' : Mem} {v : Value} {K : Value → Mem → Prop} (h : stepOp P (callF P 0) env o m = some (v, m')) (k : K v m') : SW P env o m K := ⟨0, v, m', h, k⟩

theorem sw_call {env : Env} {c : Call} {m : Mem} {g : Operand} {f : FuncId} {cap : Array Value} {xs : List Value} {K : Value → Mem → Prop} (hc : c.callee = .value g) (hg : ev1 env g = some (.func (.func f) #[] cap)) (hx : evs env c.args.toList = some xs)
    (h : Ret P f (xs ++ cap.toList) m K) : SW P env (.call c) m K := by
  obtain ⟨n, v, m', h1, k⟩ := h
  refine ⟨n, v, m', ?_, k⟩
  simp only [stepOp, hx, hc, hg]
  simpa using h1

/-- What a function's body comes to. -/
def Kret (P : Program) (fn : Func) (K : Value → Mem → Prop) : Ex → Env → Mem → Prop
  | .exit _, _, _ => False
  | _, e, m => ∃ l, resOf P e m fn.results.toList = some l ∧ K (oneOf l) m

theorem ret_of {f : FuncId} {fn : Func} {c : Code} {xs : List Value} {m : Mem} {K : Value → Mem → Prop} (hf : P.funcs[f]? = some fn) (hc : fn.body = some c) (hn : (fn.name == "runtime.NumGoroutine") = false) (h : CW P c (Kret P fn K) (envOf xs) m) : Ret P f xs m K := by
  obtain ⟨n, x, e, m1, h1, k⟩ := h
  cases x with
  | exit i => exact k.elim
  | normal =>
    obtain ⟨l, hl, k⟩ := k
    exact ⟨n + 1, oneOf l, m1, by simp only [callF, hf, hc, hn, h1, hl]; rfl, k⟩
  | ret =>
    obtain ⟨l, hl, k⟩ := k
    exact ⟨n + 1, oneOf l, m1, by simp only [callF, hf, hc, hn, h1, hl]; rfl, k⟩
end Go.AM
