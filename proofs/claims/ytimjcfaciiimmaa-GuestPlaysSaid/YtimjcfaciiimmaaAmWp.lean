/- Runs of the abstract machine, step by step: laws for proofs by hand. What code comes to is told up to blocks that are frozen. -/
import Derived.Test.YtimjcfaciiimmaaAmFrz
set_option linter.unusedSimpArgs false
set_option linter.unusedVariables false
namespace Go.AM
open Go
variable {P : Program}

/-- A call comes to K, where blocks may be frozen. -/
def Ret (P : Program) (f : FuncId) (xs : List Value) (m : Mem) (K : Value → Mem → Prop) : Prop := ∃ n v M m', callF P n f xs m = some (v, M) ∧ Frz M m' ∧ K v m'
/-- Code comes to K. -/
def CW (P : Program) (c : Code) (K : Ex → Env → Mem → Prop) (env : Env) (m : Mem) : Prop := ∃ n ex e M m', runCode P (callF P n) n c env m = some (ex, e, M) ∧ Frz M m' ∧ K ex e m'
/-- Operations come to K. -/
def OW (P : Program) (ops : Array Oper) (l : List Nat) (K : Env → Mem → Prop) (env : Env) (m : Mem) : Prop := ∃ n e M m', runOps P (callF P n) ops l env m = some (e, M) ∧ Frz M m' ∧ K e m'
/-- An operation comes to K. -/
def SW (P : Program) (env : Env) (o : Op) (m : Mem) (K : Value → Mem → Prop) : Prop := ∃ n v M m', stepOp P (callF P n) env o m = some (v, M) ∧ Frz M m' ∧ K v m'

theorem Ret.mono {f : FuncId} {xs : List Value} {m : Mem} {K K' : Value → Mem → Prop} (h : Ret P f xs m K) (hk : ∀ v m', K v m' → K' v m') : Ret P f xs m K' :=
  let ⟨n, v, M, m', e, z, k⟩ := h; ⟨n, v, M, m', e, z, hk v m' k⟩
theorem CW.mono {c : Code} {env : Env} {m : Mem} {K K' : Ex → Env → Mem → Prop} (h : CW P c K env m) (hk : ∀ x e m', K x e m' → K' x e m') : CW P c K' env m :=
  let ⟨n, x, e, M, m', h1, z, k⟩ := h; ⟨n, x, e, M, m', h1, z, hk x e m' k⟩
/-- It may go on from a memory where blocks are frozen. -/
theorem Ret.thaw {f : FuncId} {xs : List Value} {M m : Mem} {K : Value → Mem → Prop} (z : Frz M m) (h : Ret P f xs m K) : Ret P f xs M K := by
  obtain ⟨n, v, m1, m2, e, z1, k⟩ := h
  obtain ⟨M1, e1, z2⟩ := frz_call n _ _ _ _ _ _ z e
  exact ⟨n, v, M1, m2, e1, z2.trans z1, k⟩
theorem CW.thaw {c : Code} {K : Ex → Env → Mem → Prop} {env : Env} {M m : Mem} (z : Frz M m) (h : CW P c K env m) : CW P c K env M := by
  obtain ⟨n, x, e, m1, m2, e1, z1, k⟩ := h
  obtain ⟨M1, e2, z2⟩ := frz_code (frz_call n) n z e1
  exact ⟨n, x, e, M1, m2, e2, z2.trans z1, k⟩
theorem OW.thaw {ops : Array Oper} {l : List Nat} {K : Env → Mem → Prop} {env : Env} {M m : Mem} (z : Frz M m) (h : OW P ops l K env m) : OW P ops l K env M := by
  obtain ⟨n, e, m1, m2, e1, z1, k⟩ := h
  obtain ⟨M1, e2, z2⟩ := frz_ops (frz_call n) z e1
  exact ⟨n, e, M1, m2, e2, z2.trans z1, k⟩

theorem cw_skip {K : Ex → Env → Mem → Prop} {env : Env} {m : Mem} (h : K .normal env m) : CW P .skip K env m := ⟨1, _, _, _, _, rfl, Frz.refl _, h⟩
theorem cw_label {l : Nat} {K : Ex → Env → Mem → Prop} {env : Env} {m : Mem} (h : K .normal env m) : CW P (.label l) K env m := ⟨1, _, _, _, _, rfl, Frz.refl _, h⟩
theorem cw_exit {id : Nat} {K : Ex → Env → Mem → Prop} {env : Env} {m : Mem} (h : K (.exit id) env m) : CW P (.exit id) K env m := ⟨1, _, _, _, _, rfl, Frz.refl _, h⟩
theorem cw_ret {K : Ex → Env → Mem → Prop} {env : Env} {m : Mem} (h : K .ret env m) : CW P .ret K env m := ⟨1, _, _, _, _, rfl, Frz.refl _, h⟩

def Kseq (P : Program) (b : Code) (K : Ex → Env → Mem → Prop) : Ex → Env → Mem → Prop
  | .normal, e, m => CW P b K e m
  | x, e, m => K x e m

theorem cw_seq {a b : Code} {K : Ex → Env → Mem → Prop} {env : Env} {m : Mem} (h : CW P a (Kseq P b K) env m) : CW P (.seq a b) K env m := by
  obtain ⟨n, x, e, m1, mz, h1, z, k⟩ := h
  cases x with
  | normal =>
    obtain ⟨n2, x2, e2, m2, mz2, h2, z2, k2⟩ := CW.thaw z k
    refine ⟨max n n2 + 1, x2, e2, m2, mz2, ?_, z2, k2⟩
    simp only [runCode, runCode_more (callF_more n (max n n2 + 1) (by omega)) n (max n n2) (by omega) h1]
    exact runCode_more (callF_more n2 (max n n2 + 1) (by omega)) n2 (max n n2) (by omega) h2
  | exit i =>
    refine ⟨n + 1, _, e, m1, mz, ?_, z, k⟩
    simp only [runCode, runCode_more (callF_more n (n + 1) (by omega)) n n (by omega) h1]
  | ret =>
    refine ⟨n + 1, _, e, m1, mz, ?_, z, k⟩
    simp only [runCode, runCode_more (callF_more n (n + 1) (by omega)) n n (by omega) h1]

theorem cw_scope {a : Code} {K : Ex → Env → Mem → Prop} {env : Env} {m : Mem} (h : CW P a K env m) : CW P (.scope a) K env m := by
  obtain ⟨n, x, e, m1, mz, h1, z, k⟩ := h
  exact ⟨n + 1, x, e, m1, mz, by simp only [runCode, runCode_more (callF_more n (n + 1) (by omega)) n n (by omega) h1], z, k⟩

theorem cw_true {c : Operand} {a b : Code} {K : Ex → Env → Mem → Prop} {env : Env} {m : Mem} (hc : ev1 env c = some (.bool true)) (h : CW P a K env m) : CW P (.cond c a b) K env m := by
  obtain ⟨n, x, e, m1, mz, h1, z, k⟩ := h
  exact ⟨n + 1, x, e, m1, mz, by simp only [runCode, hc, runCode_more (callF_more n (n + 1) (by omega)) n n (by omega) h1], z, k⟩

theorem cw_false {c : Operand} {a b : Code} {K : Ex → Env → Mem → Prop} {env : Env} {m : Mem} (hc : ev1 env c = some (.bool false)) (h : CW P b K env m) : CW P (.cond c a b) K env m := by
  obtain ⟨n, x, e, m1, mz, h1, z, k⟩ := h
  exact ⟨n + 1, x, e, m1, mz, by simp only [runCode, hc, runCode_more (callF_more n (n + 1) (by omega)) n n (by omega) h1], z, k⟩

theorem cw_cond {c : Operand} {t : Bool} {a b : Code} {K : Ex → Env → Mem → Prop} {env : Env} {m : Mem} (hc : ev1 env c = some (.bool t)) (ha : t = true → CW P a K env m) (hb : t = false → CW P b K env m) : CW P (.cond c a b) K env m := by
  cases t
  · exact cw_false hc (hb rfl)
  · exact cw_true hc (ha rfl)

def Kblock (id : Nat) (K : Ex → Env → Mem → Prop) : Ex → Env → Mem → Prop
  | .exit i, e, m => if i = id then K .normal e m else K (.exit i) e m
  | x, e, m => K x e m

theorem cw_block {id : Nat} {a : Code} {K : Ex → Env → Mem → Prop} {env : Env} {m : Mem} (h : CW P a (Kblock id K) env m) : CW P (.block id a) K env m := by
  obtain ⟨n, x, e, m1, mz, h1, z, k⟩ := h
  have h2 := runCode_more (callF_more n (n + 1) (by omega)) n n (by omega) h1
  cases x with
  | normal => exact ⟨n + 1, _, e, m1, mz, by simp only [runCode, h2], z, k⟩
  | ret => exact ⟨n + 1, _, e, m1, mz, by simp only [runCode, h2], z, k⟩
  | exit i =>
    simp only [Kblock] at k
    by_cases hi : i = id
    · rw [if_pos hi] at k
      exact ⟨n + 1, .normal, e, m1, mz, by simp only [runCode, h2, if_pos hi], z, k⟩
    · rw [if_neg hi] at k
      exact ⟨n + 1, .exit i, e, m1, mz, by simp only [runCode, h2, if_neg hi], z, k⟩

def Kloop (I : Env → Mem → Prop) (K : Ex → Env → Mem → Prop) : Ex → Env → Mem → Prop
  | .normal, e, m => I e m
  | x, e, m => K x e m

/-- A loop: a relation that bears a number, which every round lowers. -/
theorem cw_loop {a : Code} {K : Ex → Env → Mem → Prop} (I : Nat → Env → Mem → Prop) (round : ∀ k env m, I k env m → CW P a (Kloop (fun e m' => ∃ j, j < k ∧ I j e m') K) env m) : ∀ (k : Nat) {env : Env} {m : Mem}, I k env m → CW P (.loop a) K env m := by
  intro k
  induction k using Nat.strongRecOn with
  | _ k ih =>
    intro env m h
    obtain ⟨n, x, e, m1, mz, h1, z, kk⟩ := round k env m h
    cases x with
    | normal =>
      obtain ⟨j, hj, hI⟩ := kk
      obtain ⟨n2, x2, e2, m2, mz2, h2, z2, k2⟩ := CW.thaw z (ih j hj hI)
      refine ⟨max n n2 + 1, x2, e2, m2, mz2, ?_, z2, k2⟩
      simp only [runCode, runCode_more (callF_more n (max n n2 + 1) (by omega)) n (max n n2) (by omega) h1]
      exact runCode_more (callF_more n2 (max n n2 + 1) (by omega)) n2 (max n n2) (by omega) h2
    | exit i =>
      refine ⟨n + 1, _, e, m1, mz, ?_, z, kk⟩
      simp only [runCode, runCode_more (callF_more n (n + 1) (by omega)) n n (by omega) h1]
    | ret =>
      refine ⟨n + 1, _, e, m1, mz, ?_, z, kk⟩
      simp only [runCode, runCode_more (callF_more n (n + 1) (by omega)) n n (by omega) h1]

theorem cw_region {id : Nat} {ops : Array Oper} {K : Ex → Env → Mem → Prop} {env : Env} {m : Mem} (h : OW P ops (List.range ops.size) (K .normal) env m) : CW P (.region id ops false) K env m := by
  obtain ⟨n, e, m1, mz, h1, z, k⟩ := h
  refine ⟨n + 1, .normal, e, m1, mz, ?_, z, k⟩
  simp only [runCode, runRegion, runOps_more (callF_more n (n + 1) (by omega)) h1]

/-- .. whose order is open, but each reading and each writing stand in an order. -/
theorem cw_region_still {id : Nat} {ops : Array Oper} {draw : Bool} {K : Ex → Env → Mem → Prop} {env : Env} {m : Mem} (hw : tidyB P ops (Region.before ops) = true) (h : OW P ops (List.range ops.size) (K .normal) env m) : CW P (.region id ops draw) K env m := by
  obtain ⟨n, e, m1, mz, h1, z, k⟩ := h
  refine ⟨n + 1, .normal, e, m1, mz, ?_, z, k⟩
  cases draw <;> simp only [runCode, runRegion, hw, if_true, runOps_more (callF_more n (n + 1) (by omega)) h1]

theorem ow_nil {ops : Array Oper} {K : Env → Mem → Prop} {env : Env} {m : Mem} (h : K env m) : OW P ops [] K env m := ⟨0, env, m, m, rfl, Frz.refl _, h⟩

theorem ow_cons {ops : Array Oper} {i : Nat} {l : List Nat} {o : Oper} {K : Env → Mem → Prop} {env : Env} {m : Mem} (ho : ops[i]? = some o) (hg : guardOf ops env o = some true) (h : SW P env o.op m fun v m1 => OW P ops l K (env.put o.dst v) m1) : OW P ops (i :: l) K env m := by
  obtain ⟨n, v, m1, mz, h1, z, k⟩ := h
  obtain ⟨n2, e, m2, mz2, h2, z2, k⟩ := OW.thaw z k
  refine ⟨max n n2, e, m2, mz2, ?_, z2, k⟩
  simp only [runOps, ho, hg, stepOp_more (callF_more n (max n n2) (by omega)) h1]
  exact runOps_more (callF_more n2 (max n n2) (by omega)) h2

theorem ow_skip {ops : Array Oper} {i : Nat} {l : List Nat} {o : Oper} {K : Env → Mem → Prop} {env : Env} {m : Mem} (ho : ops[i]? = some o) (hg : guardOf ops env o = some false) (h : OW P ops l K (env.put o.dst undef) m) : OW P ops (i :: l) K env m := by
  obtain ⟨n2, e, m2, mz, h2, z, k⟩ := h
  refine ⟨n2, e, m2, mz, ?_, z, k⟩
  simp only [runOps, ho, hg]
  exact h2

theorem sw_op {env : Env} {o : Op} {m m' : Mem} {v : Value} {K : Value → Mem → Prop} (h : stepOp P (callF P 0) env o m = some (v, m')) (k : K v m') : SW P env o m K := ⟨0, v, m', m', h, Frz.refl _, k⟩

theorem sw_call {env : Env} {c : Call} {m : Mem} {g : Operand} {f : FuncId} {cap : Array Value} {xs : List Value} {K : Value → Mem → Prop} (hc : c.callee = .value g) (hg : ev1 env g = some (.func (.func f) #[] cap)) (hx : evs env c.args.toList = some xs)
    (h : Ret P f (xs ++ cap.toList) m K) : SW P env (.call c) m K := by
  obtain ⟨n, v, m', mz, h1, z, k⟩ := h
  refine ⟨n, v, m', mz, ?_, z, k⟩
  simp only [stepOp, hx, hc, hg]
  simpa using h1

/-- What a function's body comes to. -/
def Kret (P : Program) (fn : Func) (K : Value → Mem → Prop) : Ex → Env → Mem → Prop
  | .exit _, _, _ => False
  | _, e, m => ∃ l, resOf P e m fn.results.toList = some l ∧ ∃ m', Frz m m' ∧ K (oneOf l) m'

theorem ret_of {f : FuncId} {fn : Func} {c : Code} {xs : List Value} {m : Mem} {K : Value → Mem → Prop} (hf : P.funcs[f]? = some fn) (hc : fn.body = some c) (hn : (fn.name == "runtime.NumGoroutine") = false) (h : CW P c (Kret P fn K) (envOf xs) m) : Ret P f xs m K := by
  obtain ⟨n, x, e, m1, mz, h1, z, k⟩ := h
  cases x with
  | exit i => exact k.elim
  | normal =>
    obtain ⟨l, hl, m', z', k⟩ := k
    exact ⟨n + 1, oneOf l, m1, m', by simp only [callF, hf, hc, hn, h1, frz_res z hl]; rfl, z.trans z', k⟩
  | ret =>
    obtain ⟨l, hl, m', z', k⟩ := k
    exact ⟨n + 1, oneOf l, m1, m', by simp only [callF, hf, hc, hn, h1, frz_res z hl]; rfl, z.trans z', k⟩
end Go.AM
