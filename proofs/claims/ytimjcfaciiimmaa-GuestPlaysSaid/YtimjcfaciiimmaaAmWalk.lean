/- What code comes to, as a predicate that unfolds: loops and calls stay. -/
import Derived.Test.YtimjcfaciiimmaaAmWp
set_option linter.unusedSimpArgs false
set_option linter.unusedVariables false
namespace Go.AM
open Go
variable (P : Program)

/-- Continuations, where simp doesn't go. -/
class Kont where
  k : Value → Mem → Prop
class KontC where
  k : Ex → Env → Mem → Prop
class KontE where
  k : Env → Mem → Prop
def RetI (f : FuncId) (xs : List Value) (m : Mem) [K : Kont] : Prop := Ret P f xs m K.k
def CWI (c : Code) [K : KontC] (env : Env) (m : Mem) : Prop := CW P c K.k env m

class KontB where
  k : Bool → Prop
/-- A result, and what goes on: it opens when the result is there. -/
def optV (r : Option (Value × Mem)) [K : Kont] : Prop :=
  match r with
  | some (v, m) => K.k v m
  | none => False
def guardV (g : Option Bool) [K : KontB] : Prop :=
  match g with
  | some b => K.k b
  | none => False
/-- A condition: it opens when it is known. -/
def condV (r : Option Value) [K : KontB] : Prop :=
  match r with
  | some (.bool b) => K.k b
  | _ => False
theorem optV_some {v : Value} {m : Mem} {K : Kont} : @optV (some (v, m)) K = K.k v m := rfl
theorem guardV_true {K : KontB} : @guardV (some true) K = K.k true := rfl
theorem guardV_false {K : KontB} : @guardV (some false) K = K.k false := rfl
theorem condV_true {K : KontB} : @condV (some (.bool true)) K = K.k true := rfl
theorem condV_false {K : KontB} : @condV (some (.bool false)) K = K.k false := rfl
/-- A condition that isn't known. -/
theorem cond_by {p : Prop} [Decidable p] {K : KontB} (h1 : p → K.k true) (h2 : ¬ p → K.k false) : @condV (some (.bool (decide p))) K := by
  by_cases h : p
  · rw [decide_eq_true h]; exact h1 h
  · rw [decide_eq_false h]; exact h2 h
theorem cond_bool {b : Bool} {K : KontB} (h1 : b = true → K.k true) (h2 : b = false → K.k false) : @condV (some (.bool b)) K := by
  cases b
  · exact h2 rfl
  · exact h1 rfl

/-- An operation. -/
def wps0 (env : Env) (o : Op) (m : Mem) [K : Kont] : Prop :=
  match o with
  | .call c => match evs env c.args.toList with
    | none => False
    | some xs => match c.callee with
      | .builtin b => @optV (evBuiltin P b c.argTypes.toList xs m) K
      | .value f => match ev1 env f with
        | some (.func (.func g) first cap) => first.size = 0 ∧ @RetI P g (xs ++ cap.toList) m K
        | _ => False
      | .invoke _ _ => False
  | o => @optV (evOp P env o m) K

def wpo0 (ops : Array Oper) (l : List Nat) [K : KontE] (env : Env) (m : Mem) : Prop :=
  match l with
  | [] => K.k env m
  | i :: r => match ops[i]? with
    | none => False
    | some o => @guardV (guardOf ops env o) ⟨fun b => match b with
      | true => @wps0 P env o.op m ⟨fun v m1 => @wpo0 ops r K (env.put o.dst v) m1⟩
      | false => @wpo0 ops r K (env.put o.dst undef) m⟩

/- The predicates, sealed: the kernel opens them by their laws alone. -/
noncomputable def wpsS : { w : (P : Program) → Env → Op → Mem → [K : Kont] → Prop // w = @wps0 } := Classical.choice ⟨⟨_, rfl⟩⟩
noncomputable def wps (env : Env) (o : Op) (m : Mem) [K : Kont] : Prop := wpsS.1 P env o m
noncomputable def wpoS : { w : (P : Program) → Array Oper → List Nat → [K : KontE] → Env → Mem → Prop // w = @wpo0 } := Classical.choice ⟨⟨_, rfl⟩⟩
noncomputable def wpo (ops : Array Oper) (l : List Nat) [K : KontE] (env : Env) (m : Mem) : Prop := wpoS.1 P ops l env m
theorem wps_eq : @wps = @wps0 := by
  funext P env o m K
  unfold wps
  rw [wpsS.2]
theorem wpo_eq : @wpo = @wpo0 := by
  funext P ops l K env m
  unfold wpo
  rw [wpoS.2]

theorem wps_open (env : Env) (o : Op) (m : Mem) (K : Kont) : @wps P env o m K = match o with
  | .call c => match evs env c.args.toList with
    | none => False
    | some xs => match c.callee with
      | .builtin b => @optV (evBuiltin P b c.argTypes.toList xs m) K
      | .value f => match ev1 env f with
        | some (.func (.func g) first cap) => first.size = 0 ∧ @RetI P g (xs ++ cap.toList) m K
        | _ => False
      | .invoke _ _ => False
  | o => @optV (evOp P env o m) K := by
  rw [wps_eq]
  rfl
theorem wpo_nil (ops : Array Oper) (K : KontE) (env : Env) (m : Mem) : @wpo P ops [] K env m = K.k env m := by
  rw [wpo_eq]
  rfl
theorem wpo_cons (ops : Array Oper) (i : Nat) (r : List Nat) (K : KontE) (env : Env) (m : Mem) : @wpo P ops (i :: r) K env m = match ops[i]? with
    | none => False
    | some o => @guardV (guardOf ops env o) ⟨fun b => match b with
      | true => @wps P env o.op m ⟨fun v m1 => @wpo P ops r K (env.put o.dst v) m1⟩
      | false => @wpo P ops r K (env.put o.dst undef) m⟩ := by
  rw [wpo_eq, wps_eq]
  rfl

/-- Blocks that a reading reads are kept. -/
def readOk (S : Nat → Prop) (env : Env) : Op → Prop
  | .load _ a => match ev1 env a with
    | some (.pointer (some ⟨i, _, _⟩)) => S i
    | _ => True
  | .convert _ _ x => match ev1 env x with
    | some (.slice (some ⟨i, _, _⟩) _ _) => S i
    | _ => True
  | .lookup _ x _ _ => match ev1 env x with
    | some (.map (some i)) => S i
    | _ => True
  | .call c => match evs env c.args.toList with
    | some [.map (some i)] => S i
    | _ => True
  | _ => True

/-- As wpo, for operations whose readings 'js' stand in no order with writings: the blocks of S stay as they are. -/
noncomputable def wpu0 (ops : Array Oper) (js : List Nat) (S : Nat → Prop) (e : Nat) (l : List Nat) [K : KontE] (env : Env) (m : Mem) : Prop :=
  match l with
  | [] => K.k env m
  | i :: r => match ops[i]? with
    | none => False
    | some o => @guardV (guardOf ops env o) ⟨fun b => match b with
      | true => (js.contains i = true → readOk S env o.op) ∧ @wps P env o.op m ⟨fun v m1 => (js.contains i = true → veq v v = true) ∧ (i < e → ∀ b, S b → m1.get b = m.get b) ∧ @wpu0 ops js S e r K (env.put o.dst v) m1⟩
      | false => @wpu0 ops js S e r K (env.put o.dst undef) m⟩

noncomputable def wpuS : { w : (P : Program) → Array Oper → List Nat → (Nat → Prop) → Nat → List Nat → [K : KontE] → Env → Mem → Prop // w = @wpu0 } := Classical.choice ⟨⟨_, rfl⟩⟩
noncomputable def wpu (ops : Array Oper) (js : List Nat) (S : Nat → Prop) (e : Nat) (l : List Nat) [K : KontE] (env : Env) (m : Mem) : Prop := wpuS.1 P ops js S e l env m
theorem wpu_eq : @wpu = @wpu0 := by
  funext P ops js S e l K env m
  unfold wpu
  rw [wpuS.2]
theorem wpu_nil (ops : Array Oper) (js : List Nat) (S : Nat → Prop) (e : Nat) (K : KontE) (env : Env) (m : Mem) : @wpu P ops js S e [] K env m = K.k env m := by
  rw [wpu_eq]
  rfl
theorem wpu_cons (ops : Array Oper) (js : List Nat) (S : Nat → Prop) (e : Nat) (i : Nat) (r : List Nat) (K : KontE) (env : Env) (m : Mem) : @wpu P ops js S e (i :: r) K env m = match ops[i]? with
    | none => False
    | some o => @guardV (guardOf ops env o) ⟨fun b => match b with
      | true => (js.contains i = true → readOk S env o.op) ∧ @wps P env o.op m ⟨fun v m1 => (js.contains i = true → veq v v = true) ∧ (i < e → ∀ b, S b → m1.get b = m.get b) ∧ @wpu P ops js S e r K (env.put o.dst v) m1⟩
      | false => @wpu P ops js S e r K (env.put o.dst undef) m⟩ := by
  rw [wpu_eq]
  rfl

/-- The readings stand ahead of a writing that is surely performed: behind it nothing need be kept. -/
def stopB (ops : Array Oper) (js : List Nat) (e : Nat) : Bool :=
  e == ops.size || match ops[e]? with
    | some o => writes o.op && o.guard.isNone && js.all fun j => ((Region.before ops).getD e 0).testBit j && decide (j < e)
    | none => false

/-- A region some of whose readings stand in no order with its writings. -/
noncomputable def Loose1 (ops : Array Oper) (js : List Nat) [K : KontE] (env : Env) (m : Mem) : Prop := ∃ (S : Nat → Prop) (e : Nat), stopB ops js e = true ∧ @wpu P ops js S e (List.range' 0 ops.size) K env m

/-- The block that a reading reads. -/
def readB (env : Env) (o : Op) (b : Nat) : Prop :=
  match o with
  | .load _ a => match ev1 env a with
    | some (.pointer (some ⟨i, _, _⟩)) => b = i
    | _ => False
  | .convert _ _ x => match ev1 env x with
    | some (.slice (some ⟨i, _, _⟩) _ _) => b = i
    | _ => False
  | .lookup _ x _ _ => match ev1 env x with
    | some (.map (some i)) => b = i
    | _ => False
  | .call c => match evs env c.args.toList with
    | some [.map (some i)] => b = i
    | _ => False
  | _ => False
theorem readOk_mono {A B : Nat → Prop} {env : Env} {o : Op} (h : readOk A env o) (hk : ∀ b, readB env o b → A b → B b) : readOk B env o := by
  cases o
  case load t a =>
    simp only [readOk, readB] at h hk ⊢
    split
    · rename_i i off sp he
      rw [he] at h hk
      exact hk _ rfl h
    · trivial
  case convert t u a =>
    simp only [readOk, readB] at h hk ⊢
    split
    · rename_i i off sp n z he
      rw [he] at h hk
      exact hk _ rfl h
    · trivial
  case lookup t a k two =>
    simp only [readOk, readB] at h hk ⊢
    split
    · rename_i i he
      rw [he] at h hk
      exact hk _ rfl h
    · trivial
  case call c =>
    simp only [readOk, readB] at h hk ⊢
    split
    · rename_i i he
      rw [he] at h hk
      exact hk _ rfl h
    · trivial
  all_goals exact trivial
/-- As wpu; each reading from a place on (behind the operation that makes the block it reads): W tells what was performed, H the memories ahead. -/
noncomputable def wpv0 (ops : Array Oper) (lo : List (Nat × Nat)) (e : Nat) (l : List Nat) (W : List Nat) (H : List Mem) (S : Nat → Prop) [K : KontE] (env : Env) (m : Mem) : Prop :=
  match l with
  | [] => K.k env m
  | i :: r => match ops[i]? with
    | none => False
    | some o => @guardV (guardOf ops env o) ⟨fun b => match b with
      | true => match lo.lookup i with
        | none => @wps P env o.op m ⟨fun v m1 => (i < e → ∀ b, S b → m1.get b = m.get b) ∧ @wpv0 ops lo e r (i :: W) (m :: H) S K (env.put o.dst v) m1⟩
        | some c => (c = 0 ∨ W.contains (c - 1) = true) ∧ readOk (fun b => ∀ M, M ∈ H.take (i - c) → M.get b = m.get b) env o.op ∧ @wps P env o.op m ⟨fun v m1 => veq v v = true ∧ (i < e → ∀ b, S b ∨ readB env o.op b → m1.get b = m.get b) ∧ @wpv0 ops lo e r (i :: W) (m :: H) (fun b => S b ∨ readB env o.op b) K (env.put o.dst v) m1⟩
      | false => @wpv0 ops lo e r W (m :: H) S K (env.put o.dst undef) m⟩
noncomputable def wpvS : { w : (P : Program) → Array Oper → List (Nat × Nat) → Nat → List Nat → List Nat → List Mem → (Nat → Prop) → [K : KontE] → Env → Mem → Prop // w = @wpv0 } := Classical.choice ⟨⟨_, rfl⟩⟩
noncomputable def wpv (ops : Array Oper) (lo : List (Nat × Nat)) (e : Nat) (l : List Nat) (W : List Nat) (H : List Mem) (S : Nat → Prop) [K : KontE] (env : Env) (m : Mem) : Prop := wpvS.1 P ops lo e l W H S env m
theorem wpv_eq : @wpv = @wpv0 := by
  funext P ops lo e l W H S K env m
  unfold wpv
  rw [wpvS.2]
theorem wpv_nil (ops : Array Oper) (lo : List (Nat × Nat)) (e : Nat) (W : List Nat) (H : List Mem) (S : Nat → Prop) (K : KontE) (env : Env) (m : Mem) : @wpv P ops lo e [] W H S K env m = K.k env m := by
  rw [wpv_eq]
  rfl
theorem wpv_cons (ops : Array Oper) (lo : List (Nat × Nat)) (e : Nat) (i : Nat) (r : List Nat) (W : List Nat) (H : List Mem) (S : Nat → Prop) (K : KontE) (env : Env) (m : Mem) : @wpv P ops lo e (i :: r) W H S K env m = match ops[i]? with
    | none => False
    | some o => @guardV (guardOf ops env o) ⟨fun b => match b with
      | true => match lo.lookup i with
        | none => @wps P env o.op m ⟨fun v m1 => (i < e → ∀ b, S b → m1.get b = m.get b) ∧ @wpv P ops lo e r (i :: W) (m :: H) S K (env.put o.dst v) m1⟩
        | some c => (c = 0 ∨ W.contains (c - 1) = true) ∧ readOk (fun b => ∀ M, M ∈ H.take (i - c) → M.get b = m.get b) env o.op ∧ @wps P env o.op m ⟨fun v m1 => veq v v = true ∧ (i < e → ∀ b, S b ∨ readB env o.op b → m1.get b = m.get b) ∧ @wpv P ops lo e r (i :: W) (m :: H) (fun b => S b ∨ readB env o.op b) K (env.put o.dst v) m1⟩
      | false => @wpv P ops lo e r W (m :: H) S K (env.put o.dst undef) m⟩ := by
  rw [wpv_eq, wps_eq]
  rw [wpv0, wps_eq]
/-- The places from which on the readings are: each behind an operation that is ahead of it. -/
def loB (ops : Array Oper) (js : List Nat) (lo : List (Nat × Nat)) : Bool :=
  js.all fun j => match lo.lookup j with
    | some 0 => true
    | some (c + 1) => decide (c < j) && ((Region.before ops).getD j 0).testBit c && match ops[c]? with
      | some o => writes o.op
      | none => false
    | none => false
noncomputable def Loose2 (ops : Array Oper) (js : List Nat) [K : KontE] (env : Env) (m : Mem) : Prop := ∃ (lo : List (Nat × Nat)) (e : Nat), loB ops js lo = true ∧ stopB ops js e = true ∧ @wpv P ops lo e (List.range' 0 ops.size) [] [] (fun _ => False) K env m
/-- A region some of whose readings stand in no order with its writings. -/
noncomputable def Loose (ops : Array Oper) (js : List Nat) [K : KontE] (env : Env) (m : Mem) : Prop := @Loose1 P ops js K env m ∨ @Loose2 P ops js K env m

/-- The readings that stand in no order with a writing: by region. -/
abbrev Us := List (Nat × List Nat)
def usB (P : Program) (ops : Array Oper) (js : List Nat) : Bool := (List.range ops.size).all fun j => tidyAt P ops (Region.before ops) j || js.contains j
def codeTidyB (P : Program) (us : Us) : Code → Bool
  | .region id ops draw => !draw || usB P ops ((us.lookup id).getD [])
  | .seq a b => codeTidyB P us a && codeTidyB P us b
  | .cond _ a b => codeTidyB P us a && codeTidyB P us b
  | .block _ a => codeTidyB P us a
  | .scope a => codeTidyB P us a
  | _ => true

noncomputable def wpc0 (us : Us) (c : Code) [K : KontC] (env : Env) (m : Mem) : Prop :=
  match c with
  | .skip => K.k .normal env m
  | .label _ => K.k .normal env m
  | .exit id => K.k (.exit id) env m
  | .ret => K.k .ret env m
  | .region id ops _ => match us.lookup id with
    | none => @wpo P ops (List.range ops.size) ⟨K.k .normal⟩ env m
    | some js => @Loose P ops js ⟨K.k .normal⟩ env m
  | .seq a b => @wpc0 us a ⟨fun x e m' => match x with | .normal => @wpc0 us b K e m' | .exit i => K.k (.exit i) e m' | .ret => K.k .ret e m'⟩ env m
  | .cond c a b => @condV (ev1 env c) ⟨fun t => match t with
    | true => @wpc0 us a K env m
    | false => @wpc0 us b K env m⟩
  | .block id a => @wpc0 us a ⟨fun x e m' => match x with | .normal => K.k .normal e m' | .exit i => if i = id then K.k .normal e m' else K.k (.exit i) e m' | .ret => K.k .ret e m'⟩ env m
  | .scope a => @wpc0 us a K env m
  | c => @CWI P c K env m

noncomputable def wpcS : { w : (P : Program) → Us → Code → [K : KontC] → Env → Mem → Prop // w = @wpc0 } := Classical.choice ⟨⟨_, rfl⟩⟩
noncomputable def wpc (us : Us) (c : Code) [K : KontC] (env : Env) (m : Mem) : Prop := wpcS.1 P us c env m
theorem wpc_eq : @wpc = @wpc0 := by
  funext P us c K env m
  unfold wpc
  rw [wpcS.2]
theorem wpc_skip (us : Us) (K : KontC) (env : Env) (m : Mem) : @wpc P us .skip K env m = K.k .normal env m := by
  rw [wpc_eq]
  rfl
theorem wpc_label (us : Us) (l : Nat) (K : KontC) (env : Env) (m : Mem) : @wpc P us (.label l) K env m = K.k .normal env m := by
  rw [wpc_eq]
  rfl
theorem wpc_exit (us : Us) (l : Nat) (K : KontC) (env : Env) (m : Mem) : @wpc P us (.exit l) K env m = K.k (.exit l) env m := by
  rw [wpc_eq]
  rfl
theorem wpc_ret (us : Us) (K : KontC) (env : Env) (m : Mem) : @wpc P us .ret K env m = K.k .ret env m := by
  rw [wpc_eq]
  rfl
theorem wpc_region (us : Us) (id : Nat) (ops : Array Oper) (d : Bool) (K : KontC) (env : Env) (m : Mem) : @wpc P us (.region id ops d) K env m = match us.lookup id with
    | none => @wpo P ops (List.range ops.size) ⟨K.k .normal⟩ env m
    | some js => @Loose P ops js ⟨K.k .normal⟩ env m := by
  rw [wpc_eq]
  rfl
theorem wpc_seq (us : Us) (a b : Code) (K : KontC) (env : Env) (m : Mem) : @wpc P us (.seq a b) K env m = @wpc P us a ⟨fun x e m' => match x with | .normal => @wpc P us b K e m' | .exit i => K.k (.exit i) e m' | .ret => K.k .ret e m'⟩ env m := by
  rw [wpc_eq]
  rfl
theorem wpc_cond (us : Us) (c : Operand) (a b : Code) (K : KontC) (env : Env) (m : Mem) : @wpc P us (.cond c a b) K env m = @condV (ev1 env c) ⟨fun t => match t with
    | true => @wpc P us a K env m
    | false => @wpc P us b K env m⟩ := by
  rw [wpc_eq]
  rfl
theorem wpc_block (us : Us) (id : Nat) (a : Code) (K : KontC) (env : Env) (m : Mem) : @wpc P us (.block id a) K env m = @wpc P us a ⟨fun x e m' => match x with | .normal => K.k .normal e m' | .exit i => if i = id then K.k .normal e m' else K.k (.exit i) e m' | .ret => K.k .ret e m'⟩ env m := by
  rw [wpc_eq]
  rfl
theorem wpc_scope (us : Us) (a : Code) (K : KontC) (env : Env) (m : Mem) : @wpc P us (.scope a) K env m = @wpc P us a K env m := by
  rw [wpc_eq]
  rfl
theorem wpc_loop (us : Us) (a : Code) (K : KontC) (env : Env) (m : Mem) : @wpc P us (.loop a) K env m = @CWI P (.loop a) K env m := by
  rw [wpc_eq]
  rfl

variable {P}

theorem wps_sound {env : Env} {o : Op} {m : Mem} {K : Kont} (h : @wps P env o m K) : SW P env o m K.k := by
  rw [wps_open] at h
  split at h
  · rename_i c
    split at h
    · exact h.elim
    · rename_i xs hx
      split at h
      · rename_i b hb
        unfold optV at h
        split at h
        · rename_i v m1 hv
          exact ⟨0, v, m1, m1, by simp only [stepOp, hx, hb]; exact hv, Frz.refl _, h⟩
        · exact h.elim
      · rename_i f hf
        split at h
        · rename_i g first cap hg
          obtain ⟨h0, h⟩ := h
          have h0' : first = #[] := by simpa using h0
          subst h0'
          exact sw_call hf hg hx h
        · exact h.elim
      · exact h.elim
  · rename_i hnc
    unfold optV at h
    split at h
    · rename_i v m1 hv
      refine ⟨0, v, m1, m1, ?_, Frz.refl _, h⟩
      unfold stepOp
      split
      · rename_i c
        exact (hnc c rfl).elim
      · exact hv
    · exact h.elim

theorem SW.mono {env : Env} {o : Op} {m : Mem} {K K' : Value → Mem → Prop} (h : SW P env o m K) (hk : ∀ v m', K v m' → K' v m') : SW P env o m K' :=
  let ⟨n, v, M, m', e, z, k⟩ := h; ⟨n, v, M, m', e, z, hk v m' k⟩

theorem wpo_sound {ops : Array Oper} {K : KontE} : ∀ {l : List Nat} {env : Env} {m : Mem}, @wpo P ops l K env m → OW P ops l K.k env m
  | [], env, m, h => ow_nil (by rw [wpo_nil] at h; exact h)
  | i :: r, env, m, h => by
    rw [wpo_cons] at h
    split at h
    · exact h.elim
    · rename_i o ho
      unfold guardV at h
      split at h
      · rename_i b hg
        cases b with
        | true => exact ow_cons ho hg ((wps_sound h).mono fun v m1 k => wpo_sound k)
        | false => exact ow_skip ho hg (wpo_sound h)
      · exact h.elim

theorem shown_same {sz n : Nat} {x : Value} {m m2 : Mem} {cs : List Value} (hx : ∀ i off sp n z, x = .slice (some ⟨i, off, sp⟩) n z → m2.get i = m.get i) (h : shown sz n x m = some cs) : shown sz n x m2 = some cs := by
  unfold shown at h ⊢
  split at h
  · exact h
  · rw [hx _ _ _ _ _ rfl]
    exact h
  · cases h

theorem convert_same {src dst el : TypeId} {v x : Value} {m m1 m2 : Mem} (hs : P.underlying src = some (.slice el)) (hx : ∀ i off sp n z, v = .slice (some ⟨i, off, sp⟩) n z → m2.get i = m.get i) (e : opConvert P src dst v m = some (x, m1)) :
    opConvert P src dst v m2 = some (x, m2) := by
  cases hd : P.underlying dst with
  | none => simp [opConvert, hs, hd] at e
  | some dd =>
    cases dd
    case int k =>
      cases v
      case int k' n => simp [opConvert, hs, hd] at e ⊢; exact e.1
      all_goals (simp [opConvert, hs, hd] at e)
    case string =>
      cases v
      case string s => simp [opConvert, hs, hd] at e ⊢; exact e.1
      case slice a n z =>
        simp only [opConvert, hs, hd] at e ⊢
        split at e
        · rename_i hu
          split at e
          · rename_i cs hsh
            simp only [shown_same hx hsh]
            split at e
            · obtain ⟨rfl, _⟩ := Prod.mk.inj (Option.some.inj e); rfl
            · cases e
          · cases e
        · cases e
      all_goals (simp [opConvert, hs, hd] at e)
    case slice e2 =>
      cases v
      case slice a n z =>
        cases a with
        | none => simp [opConvert, hs, hd] at e
        | some a =>
          obtain ⟨i, off, sp⟩ := a
          cases sp with
          | some sp => simp [opConvert, hs, hd] at e
          | none =>
            simp only [opConvert, hs, hd] at e ⊢
            rw [hx _ _ _ _ _ rfl]
            split at e
            · rename_i hq hu hg
              split at e
              · rename_i hn
                obtain ⟨rfl, _⟩ := Prod.mk.inj (Option.some.inj e)
                simp only [hq, hu, hg, hn, if_true]
              · cases e
            · cases e
      all_goals (simp [opConvert, hs, hd] at e)
    all_goals (cases v <;> simp [opConvert, hs, hd] at e)

theorem readOk_same {S : Nat → Prop} {env : Env} {o : Op} {m m1 m2 : Mem} {v : Value} (hr : readsMemP P o = true) (hS : readOk S env o) (hm : ∀ i, S i → m2.get i = m.get i) (e : evOp P env o m = some (v, m1)) : evOp P env o m2 = some (v, m2) := by
  cases o <;> first | (cases hr; done) | skip
  case load t a =>
    simp only [evOp] at e ⊢
    split at e
    · rename_i x hx
      obtain ⟨h1, _⟩ := keep_mem e
      have : opLoad P t x m2 = some v := by
        unfold opLoad at h1 ⊢
        split at h1
        · simp only [readOk, hx] at hS
          rw [hm _ hS]
          exact h1
        · cases h1
      simp only [this]
      rfl
    · cases e
  case lookup t a k two =>
    simp only [evOp] at e ⊢
    split at e
    · rename_i x y hx hy
      obtain ⟨h1, _⟩ := keep_mem e
      have hmap : ∀ es, mapAt m x = some es → mapAt m2 x = some es := by
        intro es h
        unfold mapAt at h ⊢
        split at h
        · exact h
        · simp only [readOk, hx] at hS
          rw [hm _ hS]
          exact h
        · cases h
      have : opLookup P t x y two m2 = some v := by
        unfold opLookup at h1 ⊢
        split at h1
        · split at h1
          · rename_i he
            rw [hmap _ he]
            exact h1
          · cases h1
        · cases h1
      simp only [this]
      rfl
    · cases e
  case call c =>
    obtain ⟨callee, args, ts⟩ := c
    cases callee with
    | builtin b =>
      cases b
      case len =>
        simp only [evOp] at e ⊢
        split at e
        · rename_i x hx
          obtain ⟨h1, _⟩ := keep_mem e
          have hmap : ∀ es, mapAt m x = some es → mapAt m2 x = some es := by
            intro es h
            unfold mapAt at h ⊢
            split at h
            · exact h
            · simp only [readOk, hx] at hS
              rw [hm _ hS]
              exact h
            · cases h
          have : opMapLen P ts.toList.head? x m2 = some v := by
            unfold opMapLen at h1 ⊢
            split at h1
            · cases h1
            · split at h1
              · split at h1
                · rename_i he
                  rw [hmap _ he]
                  exact h1
                · cases h1
              · cases h1
          simp only [this]
          rfl
        · cases e
      all_goals cases e
    | value f => cases e
    | invoke r n => cases e
  case convert src dst y =>
    simp only [readsMemP] at hr
    split at hr
    · rename_i el hs
      simp only [evOp] at e ⊢
      split at e
      · rename_i x hx
        refine convert_same hs ?_ e
        intro i off sp n z hxe
        subst hxe
        simp only [readOk, hx] at hS
        exact hm i hS
      · cases e
    · cases hr

/-- One operation of a trace, whose fuel may be raised. -/
theorem traceOps_cons {call : CallF} {ops : Array Oper} {i : Nat} {l : List Nat} {env e : Env} {m m1 f : Mem} {o : Oper} {v : Value} {tr : Tr} (ho : ops[i]? = some o) (hg : guardOf ops env o = some true) (hs : stepOp P call env o.op m = some (v, m1))
    (ht : traceOps P call ops l (env.put o.dst v) m1 = some (tr, e, f)) : traceOps P call ops (i :: l) env m = some ((env, m, some v) :: tr, e, f) := by
  simp only [traceOps, ho, hg, hs, ht]

/-- What a trace tells of the blocks kept, and of the readings: beside the trace itself one whose blocks may be frozen. -/
theorem wpu_trace {ops : Array Oper} {js : List Nat} {S : Nat → Prop} {e0 : Nat} {K : KontE} {m0 : Mem} : ∀ {k s : Nat} {env : Env} {M m : Mem}, Frz M m → (s ≤ e0 → ∀ j, S j → m.get j = m0.get j) → @wpu P ops js S e0 (List.range' s k) K env m →
    ∃ n T tr e F f, traceOps P (callF P n) ops (List.range' s k) env M = some (T, e, F) ∧ TrF T tr ∧ Frz F f ∧ tr.length = k ∧
      (∀ (q : Nat) (t : Env × Mem × Option Value), tr[q]? = some t → (s + q ≤ e0 → ∀ j, S j → t.2.1.get j = m0.get j) ∧ (∀ o, ops[s + q]? = some o → (t.2.2 = none → guardOf ops t.1 o = some false) ∧ ∀ x, t.2.2 = some x → js.contains (s + q) = true → readOk S t.1 o.op ∧ veq x x = true ∧ (readsMemP P o.op = true → ∃ m1, evOp P t.1 o.op t.2.1 = some (x, m1)))) ∧
      (s + k ≤ e0 → ∀ j, S j → f.get j = m0.get j) ∧ K.k e f
  | 0, s, env, M, m, z, hm, h => ⟨0, [], [], env, M, m, rfl, trivial, z, rfl, fun q t h => by simp at h, hm, by rw [List.range'_zero, wpu_nil] at h; exact h⟩
  | k + 1, s, env, M, m, z, hm, h => by
    rw [List.range'_succ] at h ⊢
    rw [wpu_cons] at h
    split at h
    · exact h.elim
    · rename_i o ho
      unfold guardV at h
      split at h
      · rename_i b hg
        cases b with
        | true =>
          obtain ⟨hr, hw⟩ := h
          obtain ⟨n, v, m1, mz, hs, z1, hv, hS, hn⟩ := wps_sound hw
          obtain ⟨M1, hs1, z2⟩ := frz_step (frz_call n) z hs
          obtain ⟨n2, T, tr, e, F, f, ht, hT, hF, hl, hk, hf, hK⟩ := wpu_trace (z2.trans z1) (fun hle j hj => (hS (by omega) j hj).trans (hm (by omega) j hj)) hn
          refine ⟨max n n2, (env, M, some v) :: T, (env, m, some v) :: tr, e, F, f, traceOps_cons ho hg (stepOp_more (callF_more n (max n n2) (by omega)) hs1) (traceOps_more (callF_more n2 (max n n2) (by omega)) ht), ⟨rfl, rfl, z, hT⟩, hF, by simp [hl], ?_, fun hle => hf (by omega), hK⟩
          intro q t hq
          cases q with
          | zero =>
            simp only [List.getElem?_cons_zero, Option.some.injEq] at hq
            subst hq
            refine ⟨hm, fun o' ho' => ?_⟩
            rw [Nat.add_zero] at ho'
            rw [ho] at ho'
            obtain rfl := Option.some.inj ho'
            refine ⟨(fun h => by cases h), ?_⟩
            intro x hx hc
            obtain rfl := Option.some.inj hx
            refine ⟨hr hc, hv hc, fun hrd => ⟨m1, ?_⟩⟩
            rw [reads_step hrd] at hs
            exact hs
          | succ q =>
            simp only [List.getElem?_cons_succ] at hq
            have := hk q t hq
            rw [show s + 1 + q = s + (q + 1) by omega] at this
            exact this
        | false =>
          obtain ⟨n2, T, tr, e, F, f, ht, hT, hF, hl, hk, hf, hK⟩ := wpu_trace z (fun hle => hm (by omega)) h
          refine ⟨n2, (env, M, none) :: T, (env, m, none) :: tr, e, F, f, by simp only [traceOps, ho, hg, ht], ⟨rfl, rfl, z, hT⟩, hF, by simp [hl], ?_, fun hle => hf (by omega), hK⟩
          intro q t hq
          cases q with
          | zero =>
            simp only [List.getElem?_cons_zero, Option.some.injEq] at hq
            subst hq
            refine ⟨hm, fun o' ho' => ?_⟩
            rw [Nat.add_zero] at ho'
            rw [ho] at ho'
            obtain rfl := Option.some.inj ho'
            exact ⟨fun _ => hg, fun x hx => by cases hx⟩
          | succ q =>
            simp only [List.getElem?_cons_succ] at hq
            have := hk q t hq
            rw [show s + 1 + q = s + (q + 1) by omega] at this
            exact this
      · exact h.elim

theorem runOps_of_trace {call : CallF} {ops : Array Oper} : ∀ {l : List Nat} {env : Env} {m : Mem} {tr : Tr} {e : Env} {f : Mem}, traceOps P call ops l env m = some (tr, e, f) → runOps P call ops l env m = some (e, f)
  | [], env, m, tr, e, f, h => by
    obtain ⟨_, h⟩ := Prod.mk.inj (Option.some.inj h)
    obtain ⟨rfl, rfl⟩ := Prod.mk.inj h
    rfl
  | i :: r, env, m, tr, e, f, h => by
    simp only [traceOps] at h
    simp only [runOps]
    split at h
    · cases h
    · rename_i o ho
      split at h
      · rename_i hg
        split at h
        · rename_i v m1 hs
          split at h
          · rename_i t2 e2 f2 ht
            obtain ⟨_, h⟩ := Prod.mk.inj (Option.some.inj h)
            obtain ⟨rfl, rfl⟩ := Prod.mk.inj h
            exact runOps_of_trace ht
          · cases h
        · cases h
      · rename_i hg
        split at h
        · rename_i t2 e2 f2 ht
          obtain ⟨_, h⟩ := Prod.mk.inj (Option.some.inj h)
          obtain ⟨rfl, rfl⟩ := Prod.mk.inj h
          exact runOps_of_trace ht
        · cases h
      · cases h

theorem loose1_sound {id : Nat} {ops : Array Oper} {draw : Bool} {js : List Nat} {K : Ex → Env → Mem → Prop} {env : Env} {m : Mem} (hu : draw = true → usB P ops js = true) (h : @Loose1 P ops js ⟨K .normal⟩ env m) : CW P (.region id ops draw) K env m := by
  obtain ⟨S, e0, hstop, h⟩ := h
  obtain ⟨n, T, tr, e, F, f, ht, hT, hF, hl, hk, hf, hK⟩ := wpu_trace (m0 := m) (Frz.refl m) (fun _ _ _ => rfl) h
  rw [← List.range_eq_range'] at ht
  refine ⟨n + 1, .normal, e, F, f, ?_, hF, hK⟩
  have ht' := traceOps_more (callF_more n (n + 1) (by omega)) ht
  have hrun : runOps P (callF P (n + 1)) ops (List.range ops.size) env m = some (e, F) := runOps_of_trace ht'
  cases draw with
  | false => simp only [runCode, runRegion, hrun]
  | true =>
    have hst : steady P ops tr f = true := by
      unfold steady
      rw [List.all_eq_true]
      intro i hi
      have hi' : i < ops.size := by simpa using hi
      split
      · rename_i o env' m' x ho htr
        cases hr : readsMemP P o.op with
        | false => simp
        | true =>
          have hu' := hu rfl
          unfold usB at hu'
          rw [List.all_eq_true] at hu'
          have := hu' i hi
          simp only [Bool.or_eq_true] at this
          rcases this with h1 | h1
          · simp [h1]
          · simp only [Bool.not_true, Bool.false_or, Bool.or_eq_true, List.all_eq_true]
            right
            intro p hp
            cases hms : mayStand (Region.before ops) (writersOf ops tr) i p with
            | false => left; rfl
            | true =>
              right
              obtain ⟨h3, h4⟩ := hk i _ htr
              rw [Nat.zero_add] at h3 h4
              obtain ⟨h5, h6, h7⟩ := (h4 o ho).2 x rfl h1
              obtain ⟨m1, h8⟩ := h7 hr
              have hps : p ≤ ops.size := by
                rcases List.mem_append.1 hp with hp | hp
                · unfold writersOf at hp
                  have := (List.mem_filter.1 hp).1
                  have : p < ops.size := by simpa using this
                  omega
                · simp at hp; omega
              have hpe : i ≤ e0 ∧ p ≤ e0 := by
                unfold stopB at hstop
                rw [Bool.or_eq_true] at hstop
                rcases hstop with hz | hz
                · have : e0 = ops.size := by simpa using hz
                  omega
                · split at hz
                  · rename_i oe hoe
                    simp only [Bool.and_eq_true, List.all_eq_true, decide_eq_true_eq] at hz
                    obtain ⟨⟨hw, hg⟩, hj⟩ := hz
                    obtain ⟨hb, hlt⟩ := hj i (by simpa using h1)
                    refine ⟨by omega, ?_⟩
                    rcases Nat.lt_or_ge e0 p with hc | hc
                    · have he : e0 < ops.size := by
                        rcases Nat.lt_or_ge e0 ops.size with h' | h'
                        · exact h'
                        · rw [Array.getElem?_eq_none h'] at hoe; cases hoe
                      have hte : tr[e0]? = some tr[e0] := List.getElem?_eq_getElem (by omega)
                      have hperf := ((hk e0 _ hte).2 oe (by rw [Nat.zero_add]; exact hoe)).1
                      have hin : e0 ∈ writersOf ops tr := by
                        unfold writersOf
                        rw [List.mem_filter]
                        refine ⟨by simpa using he, ?_⟩
                        rw [hoe, hte]
                        cases hv : tr[e0].2.2 with
                        | none =>
                          have := hperf hv
                          rw [guardOf, Option.isNone_iff_eq_none.1 hg] at this
                          cases this
                        | some v =>
                          generalize tr[e0] = te at hv
                          obtain ⟨ev, mv, vv⟩ := te
                          have hv' : vv = some v := hv
                          subst hv'
                          exact hw
                      unfold mayStand at hms
                      rw [List.all_eq_true] at hms
                      have := hms e0 hin
                      rw [if_pos hc, hb] at this
                      cases this
                    · exact hc
                  · cases hz
              have hmp : ∀ j, S j → (memAt tr f p).get j = m.get j := by
                intro j hj
                unfold memAt
                rcases Nat.lt_or_ge p ops.size with hlt | hge
                · have htp : tr[p]? = some tr[p] := List.getElem?_eq_getElem (by omega)
                  rw [htp]
                  exact (hk p _ htp).1 (by omega) j hj
                · rw [List.getElem?_eq_none (by omega)]
                  exact hf (by omega) j hj
              rw [readOk_same hr h5 (fun j hj => (hmp j hj).trans (h3 (by omega) j hj).symm) h8]
              exact h6
      · rfl
    have hst2 := frz_steady hT hF hst
    simp only [runCode, runRegion, hrun, ht', hst2, if_true]
    split <;> rename_i h <;> split at h <;> simp_all

/-- The memory at a place: ahead of s out of H, else out of the trace. -/
def mpAt (H : List Mem) (tr : Tr) (f : Mem) (s p : Nat) : Mem := if p < s then H.getD (s - 1 - p) f else memAt tr f (p - s)
theorem mpAt_cons {H : List Mem} {tr : Tr} {f m : Mem} {env : Env} {x : Option Value} {s p : Nat} : mpAt (m :: H) tr f (s + 1) p = mpAt H ((env, m, x) :: tr) f s p := by
  unfold mpAt
  rcases Nat.lt_trichotomy p s with h | h | h
  · rw [if_pos (by omega), if_pos h, show s + 1 - 1 - p = (s - 1 - p) + 1 by omega, List.getD_cons_succ]
  · subst h
    rw [if_pos (by omega), if_neg (by omega), Nat.sub_self, show p + 1 - 1 - p = 0 by omega, List.getD_cons_zero]
    rfl
  · rw [if_neg (by omega), if_neg (by omega), show p - s = (p - (s + 1)) + 1 by omega]
    rfl
theorem wpv_trace {ops : Array Oper} {lo : List (Nat × Nat)} {e0 : Nat} {K : KontE} : ∀ {k s : Nat} {env : Env} {M m : Mem} {W : List Nat} {H : List Mem} {S : Nat → Prop}, Frz M m → H.length = s → @wpv P ops lo e0 (List.range' s k) W H S K env m →
    ∃ n T tr e F f, traceOps P (callF P n) ops (List.range' s k) env M = some (T, e, F) ∧ TrF T tr ∧ Frz F f ∧ tr.length = k ∧
      (∀ (q : Nat) (t : Env × Mem × Option Value), tr[q]? = some t → ∀ o, ops[s + q]? = some o → (t.2.2 = none → guardOf ops t.1 o = some false) ∧ ∀ x c, t.2.2 = some x → lo.lookup (s + q) = some c →
        (c = 0 ∨ c - 1 ∈ W ∨ s ≤ c - 1 ∧ ∃ t', tr[c - 1 - s]? = some t' ∧ t'.2.2.isSome = true) ∧ veq x x = true ∧ (readsMemP P o.op = true → ∃ m1, evOp P t.1 o.op t.2.1 = some (x, m1)) ∧
        readOk (fun b => ∀ p, c ≤ p → p ≤ e0 → p ≤ s + k → (mpAt H tr f s p).get b = t.2.1.get b) t.1 o.op) ∧
      (∀ b, S b → ∀ p, s ≤ p → p ≤ e0 → p ≤ s + k → (mpAt H tr f s p).get b = m.get b) ∧ K.k e f
  | 0, s, env, M, m, W, H, S, z, hH, h => ⟨0, [], [], env, M, m, rfl, trivial, z, rfl, fun q t h => by simp at h, fun b hb p h1 _ h2 => by
      have : p = s := by omega
      subst this
      unfold mpAt
      rw [if_neg (by omega)]
      rfl, by rw [List.range'_zero, wpv_nil] at h; exact h⟩
  | k + 1, s, env, M, m, W, H, S, z, hH, h => by
    rw [List.range'_succ] at h ⊢
    rw [wpv_cons] at h
    split at h
    · exact h.elim
    · rename_i o ho
      unfold guardV at h
      split at h
      · rename_i b hg
        cases b with
        | true =>
          simp only at h
          cases hlo : lo.lookup s with
          | none =>
            rw [hlo] at h
            obtain ⟨n, v, m1, mz, hs, z1, hS, hn⟩ := wps_sound h
            obtain ⟨M1, hs1, z2⟩ := frz_step (frz_call n) z hs
            obtain ⟨n2, T, tr, e, F, f, ht, hT, hF, hl, hk, hf, hK⟩ := wpv_trace (z2.trans z1) (by rw [List.length_cons, hH]) hn
            refine ⟨max n n2, (env, M, some v) :: T, (env, m, some v) :: tr, e, F, f, traceOps_cons ho hg (stepOp_more (callF_more n (max n n2) (by omega)) hs1) (traceOps_more (callF_more n2 (max n n2) (by omega)) ht), ⟨rfl, rfl, z, hT⟩, hF, by simp [hl], ?_, ?_, hK⟩
            · intro q t hq
              cases q with
              | zero =>
                simp only [List.getElem?_cons_zero, Option.some.injEq] at hq
                subst hq
                intro o' ho'
                refine ⟨(fun h => by cases h), fun x c hx hc => ?_⟩
                rw [Nat.add_zero, hlo] at hc
                cases hc
              | succ q =>
                simp only [List.getElem?_cons_succ] at hq
                have h3 := hk q t hq
                rw [show s + 1 + q = s + (q + 1) by omega] at h3
                intro o' ho'
                obtain ⟨h4, h5⟩ := h3 o' ho'
                refine ⟨h4, fun x c hx hc => ?_⟩
                obtain ⟨h6, h7, h8, h9⟩ := h5 x c hx hc
                refine ⟨?_, h7, h8, readOk_mono h9 fun b _ hb p p1 p2 p3 => ?_⟩
                · rcases h6 with h6 | h6 | ⟨h6, t', h10, h11⟩
                  · exact .inl h6
                  · rcases List.mem_cons.1 h6 with h6 | h6
                    · exact .inr (.inr ⟨by omega, (env, m, some v), by rw [show c - 1 - s = 0 by omega]; rfl, rfl⟩)
                    · exact .inr (.inl h6)
                  · exact .inr (.inr ⟨by omega, t', by rw [show c - 1 - s = (c - 1 - (s + 1)) + 1 by omega, List.getElem?_cons_succ]; exact h10, h11⟩)
                · rw [← mpAt_cons]
                  exact hb p p1 p2 (by omega)
            · intro b hb p p1 p2 p3
              rcases Nat.lt_or_ge s p with hp | hp
              · rw [← mpAt_cons, hf b hb p (by omega) p2 (by omega)]
                exact hS (by omega) b hb
              · have : p = s := by omega
                subst this
                unfold mpAt
                rw [if_neg (by omega), Nat.sub_self]
                rfl
          | some c0 =>
            rw [hlo] at h
            obtain ⟨hW, hr, hw⟩ := h
            obtain ⟨n, v, m1, mz, hs, z1, hv, hS, hn⟩ := wps_sound hw
            obtain ⟨M1, hs1, z2⟩ := frz_step (frz_call n) z hs
            obtain ⟨n2, T, tr, e, F, f, ht, hT, hF, hl, hk, hf, hK⟩ := wpv_trace (z2.trans z1) (by rw [List.length_cons, hH]) hn
            refine ⟨max n n2, (env, M, some v) :: T, (env, m, some v) :: tr, e, F, f, traceOps_cons ho hg (stepOp_more (callF_more n (max n n2) (by omega)) hs1) (traceOps_more (callF_more n2 (max n n2) (by omega)) ht), ⟨rfl, rfl, z, hT⟩, hF, by simp [hl], ?_, ?_, hK⟩
            · intro q t hq
              cases q with
              | zero =>
                simp only [List.getElem?_cons_zero, Option.some.injEq] at hq
                subst hq
                intro o' ho'
                rw [Nat.add_zero] at ho'
                rw [ho] at ho'
                obtain rfl := Option.some.inj ho'
                refine ⟨(fun h => by cases h), fun x c hx hc => ?_⟩
                rw [Nat.add_zero, hlo] at hc
                obtain rfl := Option.some.inj hc
                obtain rfl := Option.some.inj hx
                refine ⟨?_, hv, fun hrd => ⟨m1, ?_⟩, readOk_mono hr fun b hb hA p p1 p2 p3 => ?_⟩
                · rcases hW with hW | hW
                  · exact .inl hW
                  · exact .inr (.inl (by simpa using hW))
                · rw [reads_step hrd] at hs
                  exact hs
                · rcases Nat.lt_trichotomy p s with hp | hp | hp
                  · refine hA _ ?_
                    unfold mpAt
                    rw [if_pos hp, List.getD_eq_getElem?_getD, List.getElem?_eq_getElem (by omega), Option.getD_some]
                    refine List.mem_take_iff_getElem.2 ⟨s - 1 - p, by omega, rfl⟩
                  · subst hp
                    unfold mpAt
                    rw [if_neg (by omega), Nat.sub_self]
                    rfl
                  · rw [← mpAt_cons, hf b (.inr hb) p (by omega) p2 (by omega)]
                    exact hS (by omega) b (.inr hb)
              | succ q =>
                simp only [List.getElem?_cons_succ] at hq
                have h3 := hk q t hq
                rw [show s + 1 + q = s + (q + 1) by omega] at h3
                intro o' ho'
                obtain ⟨h4, h5⟩ := h3 o' ho'
                refine ⟨h4, fun x c hx hc => ?_⟩
                obtain ⟨h6, h7, h8, h9⟩ := h5 x c hx hc
                refine ⟨?_, h7, h8, readOk_mono h9 fun b _ hb p p1 p2 p3 => ?_⟩
                · rcases h6 with h6 | h6 | ⟨h6, t', h10, h11⟩
                  · exact .inl h6
                  · rcases List.mem_cons.1 h6 with h6 | h6
                    · exact .inr (.inr ⟨by omega, (env, m, some v), by rw [show c - 1 - s = 0 by omega]; rfl, rfl⟩)
                    · exact .inr (.inl h6)
                  · exact .inr (.inr ⟨by omega, t', by rw [show c - 1 - s = (c - 1 - (s + 1)) + 1 by omega, List.getElem?_cons_succ]; exact h10, h11⟩)
                · rw [← mpAt_cons]
                  exact hb p p1 p2 (by omega)
            · intro b hb p p1 p2 p3
              rcases Nat.lt_or_ge s p with hp | hp
              · rw [← mpAt_cons, hf b (.inl hb) p (by omega) p2 (by omega)]
                exact hS (by omega) b (.inl hb)
              · have : p = s := by omega
                subst this
                unfold mpAt
                rw [if_neg (by omega), Nat.sub_self]
                rfl
        | false =>
          obtain ⟨n2, T, tr, e, F, f, ht, hT, hF, hl, hk, hf, hK⟩ := wpv_trace z (by rw [List.length_cons, hH]) h
          refine ⟨n2, (env, M, none) :: T, (env, m, none) :: tr, e, F, f, by simp only [traceOps, ho, hg, ht], ⟨rfl, rfl, z, hT⟩, hF, by simp [hl], ?_, ?_, hK⟩
          · intro q t hq
            cases q with
            | zero =>
              simp only [List.getElem?_cons_zero, Option.some.injEq] at hq
              subst hq
              intro o' ho'
              rw [Nat.add_zero] at ho'
              rw [ho] at ho'
              obtain rfl := Option.some.inj ho'
              exact ⟨fun _ => hg, fun x c hx => by cases hx⟩
            | succ q =>
              simp only [List.getElem?_cons_succ] at hq
              have h3 := hk q t hq
              rw [show s + 1 + q = s + (q + 1) by omega] at h3
              intro o' ho'
              obtain ⟨h4, h5⟩ := h3 o' ho'
              refine ⟨h4, fun x c hx hc => ?_⟩
              obtain ⟨h6, h7, h8, h9⟩ := h5 x c hx hc
              refine ⟨?_, h7, h8, readOk_mono h9 fun b _ hb p p1 p2 p3 => ?_⟩
              · rcases h6 with h6 | h6 | ⟨h6, t', h10, h11⟩
                · exact .inl h6
                · exact .inr (.inl h6)
                · exact .inr (.inr ⟨by omega, t', by rw [show c - 1 - s = (c - 1 - (s + 1)) + 1 by omega, List.getElem?_cons_succ]; exact h10, h11⟩)
              · rw [← mpAt_cons]
                exact hb p p1 p2 (by omega)
          · intro b hb p p1 p2 p3
            rcases Nat.lt_or_ge s p with hp | hp
            · rw [← mpAt_cons (env := env) (x := none), hf b hb p (by omega) p2 (by omega)]
            · have : p = s := by omega
              subst this
              unfold mpAt
              rw [if_neg (by omega), Nat.sub_self]
              rfl
      · exact h.elim

theorem loose2_sound {id : Nat} {ops : Array Oper} {draw : Bool} {js : List Nat} {K : Ex → Env → Mem → Prop} {env : Env} {m : Mem} (hu : draw = true → usB P ops js = true) (h : @Loose2 P ops js ⟨K .normal⟩ env m) : CW P (.region id ops draw) K env m := by
  obtain ⟨lo, e0, hlo, hstop, h⟩ := h
  obtain ⟨n, T, tr, e, F, f, ht, hT, hF, hl, hk, hf, hK⟩ := wpv_trace (s := 0) (H := []) (Frz.refl m) rfl h
  rw [← List.range_eq_range'] at ht
  refine ⟨n + 1, .normal, e, F, f, ?_, hF, hK⟩
  have ht' := traceOps_more (callF_more n (n + 1) (by omega)) ht
  have hrun : runOps P (callF P (n + 1)) ops (List.range ops.size) env m = some (e, F) := runOps_of_trace ht'
  cases draw with
  | false => simp only [runCode, runRegion, hrun]
  | true =>
    have hst : steady P ops tr f = true := by
      unfold steady
      rw [List.all_eq_true]
      intro i hi
      have hi' : i < ops.size := by simpa using hi
      split
      · rename_i o env' m' x ho htr
        cases hr : readsMemP P o.op with
        | false => simp
        | true =>
          have hu' := hu rfl
          unfold usB at hu'
          rw [List.all_eq_true] at hu'
          have := hu' i hi
          simp only [Bool.or_eq_true] at this
          rcases this with h1 | h1
          · simp [h1]
          · simp only [Bool.not_true, Bool.false_or, Bool.or_eq_true, List.all_eq_true]
            right
            intro p hp
            cases hms : mayStand (Region.before ops) (writersOf ops tr) i p with
            | false => left; rfl
            | true =>
              right
              have hloi := List.all_eq_true.1 hlo i (by simpa using h1)
              obtain ⟨c, hc⟩ : ∃ c, lo.lookup i = some c := by
                cases hh : lo.lookup i with
                | none => rw [hh] at hloi; cases hloi
                | some c => exact ⟨c, rfl⟩
              rw [hc] at hloi
              obtain ⟨h3, h6, h7, h5⟩ := (hk i _ htr o (by rw [Nat.zero_add]; exact ho)).2 x c rfl (by rw [Nat.zero_add]; exact hc)
              obtain ⟨m1, h8⟩ := h7 hr
              have hps : p ≤ ops.size := by
                rcases List.mem_append.1 hp with hp | hp
                · unfold writersOf at hp
                  have := (List.mem_filter.1 hp).1
                  have : p < ops.size := by simpa using this
                  omega
                · simp at hp; omega
              have hpe : i ≤ e0 ∧ p ≤ e0 := by
                unfold stopB at hstop
                rw [Bool.or_eq_true] at hstop
                rcases hstop with hz | hz
                · have : e0 = ops.size := by simpa using hz
                  omega
                · split at hz
                  · rename_i oe hoe
                    simp only [Bool.and_eq_true, List.all_eq_true, decide_eq_true_eq] at hz
                    obtain ⟨⟨hw, hg⟩, hj⟩ := hz
                    obtain ⟨hb, hlt⟩ := hj i (by simpa using h1)
                    refine ⟨by omega, ?_⟩
                    rcases Nat.lt_or_ge e0 p with hc | hc
                    · have he : e0 < ops.size := by
                        rcases Nat.lt_or_ge e0 ops.size with h' | h'
                        · exact h'
                        · rw [Array.getElem?_eq_none h'] at hoe; cases hoe
                      have hte : tr[e0]? = some tr[e0] := List.getElem?_eq_getElem (by omega)
                      have hperf := (hk e0 _ hte oe (by rw [Nat.zero_add]; exact hoe)).1
                      have hin : e0 ∈ writersOf ops tr := by
                        unfold writersOf
                        rw [List.mem_filter]
                        refine ⟨by simpa using he, ?_⟩
                        rw [hoe, hte]
                        cases hv : tr[e0].2.2 with
                        | none =>
                          have := hperf hv
                          rw [guardOf, Option.isNone_iff_eq_none.1 hg] at this
                          cases this
                        | some v =>
                          generalize tr[e0] = te at hv
                          obtain ⟨ev, mv, vv⟩ := te
                          have hv' : vv = some v := hv
                          subst hv'
                          exact hw
                      unfold mayStand at hms
                      rw [List.all_eq_true] at hms
                      have := hms e0 hin
                      rw [if_pos hc, hb] at this
                      cases this
                    · exact hc
                  · cases hz
              have hcp : c ≤ p := by
                cases c with
                | zero => exact Nat.zero_le _
                | succ c =>
                  rcases Nat.lt_or_ge c p with hcp | hcp
                  · exact hcp
                  · exfalso
                    simp only [Bool.and_eq_true, decide_eq_true_eq] at hloi
                    obtain ⟨⟨hci, hbit⟩, hwr⟩ := hloi
                    rcases h3 with h3 | h3 | ⟨_, t', h9, h10⟩
                    · cases h3
                    · cases h3
                    · have hin : c ∈ writersOf ops tr := by
                        unfold writersOf
                        rw [List.mem_filter]
                        refine ⟨by simp; omega, ?_⟩
                        rw [Nat.add_sub_cancel, Nat.sub_zero] at h9
                        obtain ⟨ev, mv, vv⟩ := t'
                        obtain ⟨vv, rfl⟩ := Option.isSome_iff_exists.1 h10
                        split at hwr
                        · rename_i oc hoc
                          rw [hoc, h9]
                          exact hwr
                        · cases hwr
                      unfold mayStand at hms
                      rw [List.all_eq_true] at hms
                      have := hms c hin
                      rw [if_neg (by omega), hbit] at this
                      cases this
              have h5' : readOk (fun b => (memAt tr f p).get b = (memAt tr f i).get b) env' o.op := readOk_mono h5 fun b _ hb => by
                have := hb p hcp (by omega) (by omega)
                unfold mpAt at this
                rw [if_neg (by omega), Nat.sub_zero] at this
                rw [this]
                unfold memAt
                rw [htr]
              have hmi : memAt tr f i = m' := by
                unfold memAt
                rw [htr]
              rw [hmi] at h5'
              rw [readOk_same hr h5' (fun j hj => hj) h8]
              exact h6
      · rfl
    have hst2 := frz_steady hT hF hst
    simp only [runCode, runRegion, hrun, ht', hst2, if_true]
    split <;> rename_i h <;> split at h <;> simp_all

theorem loose_sound {id : Nat} {ops : Array Oper} {draw : Bool} {js : List Nat} {K : Ex → Env → Mem → Prop} {env : Env} {m : Mem} (hu : draw = true → usB P ops js = true) (h : @Loose P ops js ⟨K .normal⟩ env m) : CW P (.region id ops draw) K env m :=
  h.elim (loose1_sound hu) (loose2_sound hu)

theorem wpc_sound {us : Us} : ∀ {c : Code} {K : KontC} {env : Env} {m : Mem}, codeTidyB P us c = true → @wpc P us c K env m → CW P c K.k env m
  | .skip, K, env, m, _, h => cw_skip (by rw [wpc_skip] at h; exact h)
  | .label _, K, env, m, _, h => cw_label (by rw [wpc_label] at h; exact h)
  | .exit _, K, env, m, _, h => cw_exit (by rw [wpc_exit] at h; exact h)
  | .ret, K, env, m, _, h => cw_ret (by rw [wpc_ret] at h; exact h)
  | .region id ops draw, K, env, m, ht, h => by
    rw [wpc_region] at h
    simp only [codeTidyB] at ht
    split at h
    · rename_i hu
      cases draw with
      | false => exact cw_region (wpo_sound h)
      | true =>
        refine cw_region_still ?_ (wpo_sound h)
        rw [hu] at ht
        simpa [usB, tidyB] using ht
    · rename_i js hu
      rw [hu] at ht
      refine loose_sound (fun hd => ?_) h
      subst hd
      simpa using ht
  | .seq a b, K, env, m, ht, h => by
    simp only [codeTidyB, Bool.and_eq_true] at ht
    rw [wpc_seq] at h
    refine cw_seq ((wpc_sound (c := a) ht.1 h).mono ?_)
    intro x e m' k
    cases x with
    | normal => exact wpc_sound (c := b) ht.2 k
    | exit i => exact k
    | ret => exact k
  | .cond c a b, K, env, m, ht, h => by
    simp only [codeTidyB, Bool.and_eq_true] at ht
    rw [wpc_cond] at h
    unfold condV at h
    split at h
    · rename_i t hc
      cases t with
      | true => exact cw_cond hc (fun q => wpc_sound (c := a) ht.1 h) (fun q => by cases q)
      | false => exact cw_cond hc (fun q => by cases q) (fun q => wpc_sound (c := b) ht.2 h)
    · exact h.elim
  | .block id a, K, env, m, ht, h => by
    rw [wpc_block] at h
    refine cw_block ((wpc_sound (c := a) ht h).mono ?_)
    intro x e m' k
    cases x with
    | normal => exact k
    | exit i => exact k
    | ret => exact k
  | .scope a, K, env, m, ht, h => cw_scope (wpc_sound (c := a) ht (by rw [wpc_scope] at h; exact h))
  | .loop _, K, env, m, _, h => by rw [wpc_loop] at h; exact h
  | .rangeFunc _ _ _ _, K, env, m, _, h => by rw [wpc_eq] at h; exact h
  | .goto _, K, env, m, _, h => by rw [wpc_eq] at h; exact h
  | .refuse _, K, env, m, _, h => by rw [wpc_eq] at h; exact h

theorem put_none (env : Env) (v : Value) : env.put none v = env := rfl
theorem put_get (env : Env) (d t : Nat) (v : Value) : (env.put (some d) v) t = if t = d then some v else env t := rfl

/-- What is told at a function's end. -/
def Kend (P : Program) (rs : List ResultVar) (K : Value → Mem → Prop) (e : Env) (m : Mem) : Prop :=
  match resOf P e m rs with
  | some l => K (oneOf l) m
  | none => False

theorem Kend.ex {rs : List ResultVar} {K : Value → Mem → Prop} {e : Env} {m : Mem} (h : Kend P rs K e m) : ∃ l, resOf P e m rs = some l ∧ K (oneOf l) m := by
  unfold Kend at h
  split at h
  · rename_i l hl; exact ⟨l, hl, h⟩
  · exact h.elim

/-- A function: its code unfolds. -/
theorem ret_wp (us : Us) {f : FuncId} {fn : Func} {c : Code} {xs : List Value} {m : Mem} {K : Value → Mem → Prop} (hf : P.funcs[f]? = some fn) (hc : fn.body = some c) (hn : (fn.name == "runtime.NumGoroutine") = false) (ht : codeTidyB P us c = true)
    (h : @wpc P us c ⟨fun x e m' => match x with | .exit _ => False | .normal => Kend P fn.results.toList K e m' | .ret => Kend P fn.results.toList K e m'⟩ (envOf xs) m) : Ret P f xs m K := by
  refine ret_of hf hc hn ((wpc_sound ht h).mono ?_)
  intro x e m' k
  cases x with
  | exit i => exact k
  | normal => exact let ⟨l, h1, h2⟩ := k.ex; ⟨l, h1, m', Frz.refl _, h2⟩
  | ret => exact let ⟨l, h1, h2⟩ := k.ex; ⟨l, h1, m', Frz.refl _, h2⟩

/-- .. at whose end blocks may be frozen. -/
theorem Ret.join {f : FuncId} {xs : List Value} {m : Mem} {K : Value → Mem → Prop} (h : Ret P f xs m fun v m' => ∃ m'', Frz m' m'' ∧ K v m'') : Ret P f xs m K := by
  obtain ⟨n, v, M, m', e, z, m'', z', k⟩ := h
  exact ⟨n, v, M, m'', e, z.trans z', k⟩
theorem CW.join {c : Code} {K : Ex → Env → Mem → Prop} {env : Env} {m : Mem} (h : CW P c (fun x e m' => ∃ m'', Frz m' m'' ∧ K x e m'') env m) : CW P c K env m := by
  obtain ⟨n, x, e, M, m', h1, z, m'', z', k⟩ := h
  exact ⟨n, x, e, M, m'', h1, z.trans z', k⟩

/-- A loop, its body unfolded. -/
theorem loop_wp (us : Us) {a : Code} {K : Ex → Env → Mem → Prop} (ht : codeTidyB P us a = true) (I : Nat → Env → Mem → Prop) (round : ∀ k env m, I k env m → @wpc P us a ⟨fun x e m' => match x with | .normal => ∃ j, j < k ∧ I j e m' | .exit i => K (.exit i) e m' | .ret => K .ret e m'⟩ env m)
    (k : Nat) {env : Env} {m : Mem} (h : I k env m) : CW P (.loop a) K env m := by
  refine cw_loop I (fun k env m hI => (wpc_sound ht (round k env m hI)).mono ?_) k h
  intro x e m' q
  cases x with
  | normal => exact q
  | exit i => exact q
  | ret => exact q

/-- .. where blocks may be frozen behind each round. -/
theorem loop_wpz (us : Us) {a : Code} {K : Ex → Env → Mem → Prop} (ht : codeTidyB P us a = true) (I : Nat → Env → Mem → Prop) (round : ∀ k env m, I k env m → @wpc P us a ⟨fun x e m' => match x with | .normal => ∃ m'', Frz m' m'' ∧ ∃ j, j < k ∧ I j e m'' | .exit i => K (.exit i) e m' | .ret => K .ret e m'⟩ env m)
    (k : Nat) {env : Env} {m : Mem} (h : I k env m) : CW P (.loop a) K env m := by
  refine cw_loop I (fun k env m hI => CW.join ((wpc_sound ht (round k env m hI)).mono ?_)) k h
  intro x e m' q
  cases x with
  | normal =>
    obtain ⟨m'', z, q⟩ := q
    exact ⟨m'', z, q⟩
  | exit i => exact ⟨m', Frz.refl _, q⟩
  | ret => exact ⟨m', Frz.refl _, q⟩
end Go.AM
