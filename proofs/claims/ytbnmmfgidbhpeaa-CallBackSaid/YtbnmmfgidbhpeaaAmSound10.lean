/- Operations in the order of the text; what an operation looks at. -/
import Derived.Test.YtbnmmfgidbhpeaaAmSound9
set_option linter.unusedSimpArgs false
set_option linter.unusedVariables false
namespace Go.AM
open Go
variable {P : Program}

theorem evs_congr {env env' : Env} : ∀ {xs : List Operand}, (∀ x ∈ xs, ev1 env x = ev1 env' x) → evs env xs = evs env' xs
  | [], _ => rfl
  | x :: r, h => by
    simp only [evs, h x (List.mem_cons_self ..), evs_congr (xs := r) fun y hy => h y (List.mem_cons_of_mem _ hy)]

theorem evParts_congr {env env' : Env} : ∀ {xs : List (Nat × Operand)}, (∀ x ∈ xs, ev1 env x.2 = ev1 env' x.2) → evParts env xs = evParts env' xs
  | [], _ => rfl
  | (i, x) :: r, h => by
    simp only [evParts, h (i, x) (List.mem_cons_self ..), evParts_congr (xs := r) fun y hy => h y (List.mem_cons_of_mem _ hy)]

theorem evOpt_congr {env env' : Env} {x : Option Operand} (h : ∀ y, x = some y → ev1 env y = ev1 env' y) : evOpt env x = evOpt env' x := by
  cases x with
  | none => rfl
  | some y => simp only [evOpt, h y rfl]

theorem stepOp_congr {env env' : Env} {o : Op} {call : CallF} {m : Mem} (h : ∀ x ∈ o.operands, ev1 env x = ev1 env' x) : stepOp P call env o m = stepOp P call env' o m := by
  cases o <;> simp only [Op.operands] at h <;> simp only [stepOp, evOp]
  case build t ps => rw [evParts_congr fun x hx => h x.2 (by simpa using ⟨x.1, by simpa using hx⟩)]
  case buildSlice t n ps => rw [evParts_congr fun x hx => h x.2 (by simpa using ⟨x.1, by simpa using hx⟩)]
  case makeFunc fn first captured =>
    cases fn <;> simp only []
    rw [evs_congr fun x hx => h x (by simp at hx; simp [hx])]
  case call c =>
    have ha : evs env c.args.toList = evs env' c.args.toList := evs_congr fun x hx => h x (by simp at hx; simp [Call.operands, hx])
    have hf : ∀ f, c.callee = .value f → ev1 env f = ev1 env' f := fun f hf => h f (by simp [Call.operands, hf])
    rw [ha]
    cases hc : c.callee with
    | value f => simp only [hf f hc]
    | invoke r n => rfl
    | builtin b => rfl
  case slice t x lo hi mx =>
    cases mx with
    | some q => rfl
    | none =>
      have h1 : ev1 env x = ev1 env' x := h x (by simp)
      have h2 : evOpt env lo = evOpt env' lo := evOpt_congr fun y hy => h y (by simp [hy])
      have h3 : evOpt env hi = evOpt env' hi := evOpt_congr fun y hy => h y (by simp [hy])
      simp only [h1, h2, h3]
  all_goals (first | rfl | (simp_all; done) | skip)

theorem undef_rel {β : Ren} : VRel β undef undef := .tuple rfl (fun i x x' h => by simp at h)

theorem guard_wanted {β : Ren} {N : Nat} {env : Env} {a : Act} {ops : Array Oper} {o : Oper} {b : Bool} (E : ERel β N env a) (h : guardOf ops env o = some b) :
    Region.wanted o (yielded ops a.tmps) = b := by
  unfold guardOf at h
  unfold Region.wanted
  split at h
  · rename_i hg
    rw [hg]
    exact Option.some.inj h
  · rename_i j want hg
    rw [hg]
    split at h
    · cases h
    · rename_i t ht
      split at h
      · rename_i c hc
        obtain ⟨v, hv, r⟩ := E.has t _ hc
        cases r
        simp only [yielded, ht, Option.bind_some, hv]
        rw [← Option.some.inj h]
        rfl
      · rename_i c hc
        obtain ⟨v, hv, r⟩ := E.has t _ hc
        cases r
        simp only [yielded, ht, Option.bind_some, hv]
        rw [← Option.some.inj h]
        rfl
      · cases h

theorem put_defers (a : Act) (d : Option Tmp) (v : Value) : (a.put d v).defers = a.defers := by cases d <;> rfl

theorem runOps_grow {call : CallF} (hcall : CallGrow call) {ops : Array Oper} : ∀ {l : List Nat} {env : Env} {m : Mem} {e : Env} {m' : Mem}, runOps P call ops l env m = some (e, m') → Grow m m'
  | [], env, m, e, m', h => by
    obtain ⟨_, rfl⟩ := Prod.mk.inj (Option.some.inj h)
    exact Grow.refl _
  | i :: r, env, m, e, m', h => by
    simp only [runOps] at h
    split at h
    · cases h
    · split at h
      · split at h
        · rename_i hs
          exact (stepOp_grow hcall hs).trans (runOps_grow hcall h)
        · cases h
      · exact runOps_grow hcall h
      · cases h

theorem runOps_ok {call : CallF} (hcall : CallOk P call) {ops : Array Oper} {N : Nat} (hd : ∀ (i : Nat) (o : Oper) (t : Nat), ops[i]? = some o → o.dst = some t → t < N) {Q : Exit → Act → World → Prop} :
    ∀ {l : List Nat} {env : Env} {a : Act} {m : Mem} {w : World} {β : Ren} {e : Env} {m' : Mem}, ERel β N env a → WRel P β m w → Free β m m' → runOps P call ops l env m = some (e, m') →
      (∀ a' w' β', ERel β' N e a' → a'.defers = a.defers → Post P β m w m' β' w' → Q .normal a' w') → wpOps P ops Q l a w
  | [], env, a, m, w, β, e, m', E, W, hF, h, K => by
    obtain ⟨rfl, rfl⟩ := Prod.mk.inj (Option.some.inj h)
    exact K a w β E rfl (Post.refl W)
  | i :: r, env, a, m, w, β, e, m', E, W, hF, h, K => by
    simp only [runOps] at h
    split at h
    · cases h
    · rename_i o ho
      simp only [wpOps, ho]
      split at h
      · rename_i hg
        rw [if_pos (guard_wanted E hg)]
        refine .inl ?_
        split at h
        · rename_i v m1 hs
          have g1 := stepOp_grow hcall.gr hs
          have g2 := runOps_grow hcall.gr h
          have hF1 : Free β m m1 := fun j h1 h2 => hF j h1 (Nat.lt_of_lt_of_le h2 g2.next)
          refine stepOp_wp hcall E W hF1 hs ?_
          intro v' w1 β1 hv p1
          have hE : ERel β1 N (env.put o.dst v) (a.put o.dst v') := (E.mono (p1.ext hF1)).put (hd i o · ho) hv
          have hF2 : Free β1 m1 m' := fun j h1 h2 => by
            rw [p1.out j (.inr h1)]
            exact hF j (Nat.le_trans g1.next h1) h2
          refine runOps_ok hcall hd hE p1.rel hF2 h ?_
          intro a' w' β' E' hdf p2
          exact K a' w' β' E' (hdf.trans (put_defers _ _ _)) (p1.trans p2 hF)
        · cases h
      · rename_i hg
        rw [if_neg (by rw [guard_wanted E hg]; simp)]
        refine runOps_ok hcall hd (E.put (hd i o · ho) undef_rel) W hF h ?_
        intro a' w' β' E' hdf p2
        exact K a' w' β' E' (hdf.trans (put_defers _ _ _)) p2
      · cases h
end Go.AM
