/- Built-in functions, calls: any operation. -/
import Derived.Test.YtbnmmfgidbhpeaaAmSound8
set_option linter.unusedSimpArgs false
set_option linter.unusedVariables false
namespace Go.AM
open Go
variable {P : Program} {β : Ren} {m : Mem} {w : World}

theorem run_builtin {ρ : Operand → Value} {o : Oper} {c : Call} {b : Builtin} (ho : o.op = .call c) (hc : c.callee = .builtin b) :
    (execOp ρ o).run P w = (builtin b c.argTypes o.type (c.args.map fun | .const _ => true | _ => false) (c.args.map ρ)).run P w := by
  simp [execOp, ho, resolve, hc, invoke]
  rfl

theorem evBuiltin_ok {ρ : Operand → Value} {o : Oper} {c : Call} {b : Builtin} {xs : List Value} {x : Value} {m' : Mem} (W : WRel P β m w) (hF : Free β m m') (ho : o.op = .call c) (hc : c.callee = .builtin b)
    (hl : LRel β xs (c.args.toList.map ρ)) (e : evBuiltin P b c.argTypes.toList xs m = some (x, m')) : OpOk P β m w x m' ((execOp ρ o).run P w) := by
  rw [run_builtin ho hc]
  have ha : c.args.map ρ = (c.args.toList.map ρ).toArray := by apply Array.ext'; simp
  have ht : c.argTypes = c.argTypes.toList.toArray := by simp
  rw [ha]
  generalize c.args.toList.map ρ = vs at hl
  unfold evBuiltin at e
  split at e
  · obtain ⟨z, w', β', h1, h2, h3⟩ := opAppend_rel (ty := o.type) W hF hl e
    refine ⟨z, w', β', .inl ?_, h2, h3⟩
    rw [ht]
    simp [builtin, h1]
  · rename_i y
    match vs, hl with
    | [u], ⟨hu, _⟩ =>
    split at e
    · rename_i v hv
      obtain ⟨rfl, rfl⟩ := Prod.mk.inj (Option.some.inj e)
      rw [ht]
      generalize c.argTypes.toList = tl at hv ⊢
      rcases tl with _ | ⟨t, ts⟩
      · simp [opLen] at hv
      · obtain ⟨h1, h2⟩ := opLen_rel (ts := ts) (P := P) (w := w) (ty := o.type) hu hv
        exact .same W (by simp [builtin, h1]) h2
    · cases e
  · rename_i y r
    match vs, hl with
    | u :: us, ⟨hu, hus⟩ =>
    split at e
    · rename_i v hv
      obtain ⟨rfl, rfl⟩ := Prod.mk.inj (Option.some.inj e)
      obtain ⟨z, h1, h2⟩ := foldMin_rel (P := P) (w := w) hu hus hv
      exact .same W (v := z) (by simp [builtin, Builtin.min_, h1]) h2
    · cases e
  · rename_i y r
    match vs, hl with
    | u :: us, ⟨hu, hus⟩ =>
    split at e
    · rename_i v hv
      obtain ⟨rfl, rfl⟩ := Prod.mk.inj (Option.some.inj e)
      obtain ⟨z, h1, h2⟩ := foldMax_rel (P := P) (w := w) hu hus hv
      exact .same W (v := z) (by simp [builtin, Builtin.max_, h1]) h2
    · cases e
  · obtain ⟨z, w', h1, h2, h3⟩ := opCopy_rel (ty := o.type) W hl e
    refine ⟨z, w', β, .inl ?_, h2, h3⟩
    rw [ht]
    simp [builtin, h1]
  · cases e

/-- What a function of the program comes to, as the abstract machine tells it. -/
structure CallOk1 (P : Program) (f : FuncId) (xs : List Value) (m : Mem) (x : Value) (m' : Mem) : Prop where
  grow : Grow m m'
  fn : ∃ fn, P.funcs[f]? = some fn ∧ fn.body.isSome = true ∧ (fn.name == "runtime.NumGoroutine") = false
  runs : ∀ (β : Ren) (w : World) (vs : List Value), WRel P β m w → LRel β xs vs → Free β m m' →
    Calls P f vs.toArray w (fun e w' => ∃ v β', e = .returned v ∧ VRel β' x v ∧ Post P β m w m' β' w')

def CallOk (P : Program) (call : CallF) : Prop := ∀ f xs m x m', call f xs m = some (x, m') → CallOk1 P f xs m x m'

theorem OpOk.wp {o : Oper} {a : Act} {x : Value} {m' : Mem} {K : Act → World → Prop} {Q : Exit → Act → World → Prop} (h : OpOk P β m w x m' ((execOp a.eval o).run P w))
    (hK : ∀ v w' β', VRel β' x v → Post P β m w m' β' w' → K (a.put o.dst v) w') : o.wp P a w K Q := by
  obtain ⟨v, w', β', hr, hv, hp⟩ := h
  unfold Oper.wp
  rcases hr with hr | ⟨hr, rfl⟩
  · rw [hr]; exact hK v w' β' hv hp
  · rw [hr]; exact hK _ w' β' hv hp

/-- Any operation. -/
theorem stepOp_wp {N : Nat} {env : Env} {a : Act} {o : Oper} {x : Value} {m' : Mem} {call : CallF} (hcall : CallOk P call) (E : ERel β N env a) (W : WRel P β m w) (hF : Free β m m')
    (e : stepOp P call env o.op m = some (x, m')) {K : Act → World → Prop} {Q : Exit → Act → World → Prop}
    (hK : ∀ v w' β', VRel β' x v → Post P β m w m' β' w' → K (a.put o.dst v) w') : o.wp P a w K Q := by
  unfold stepOp at e
  split at e
  · rename_i c ho
    split at e
    · cases e
    · rename_i xs hxs
      have hl := evs_rel E hxs
      split at e
      · rename_i b hb
        exact (evBuiltin_ok W hF ho hb hl e).wp hK
      · rename_i f hf
        split at e
        · rename_i g first cap hv
          split at e
          · rename_i hfirst
            have hr := ev1_rel E hv
            generalize hg : a.eval f = u at hr
            cases hr with
            | func hs hcs =>
              rename_i cs'
              have hl2 : LRel β (xs ++ cap.toList) (c.args.toList.map a.eval ++ cs'.toList) :=
                hl.append (LRel.of (by simpa using hs) fun i y v h1 h2 => hcs i y v (by simpa using h1) (by simpa using h2))
              have C := hcall _ _ _ _ _ e
              obtain ⟨fn, hfn, hbody, hname⟩ := C.fn
              have hbn : fn.body ≠ none := by cases h : fn.body <;> simp_all
              have hnn : fn.name ≠ "runtime.NumGoroutine" := by simpa using hname
              have hrun : (execOp a.eval o).run P w = .ok (.enter g (c.args.toList.map a.eval ++ cs'.toList).toArray) w := by
                have ha : c.args.map a.eval ++ cs' = (c.args.toList.map a.eval ++ cs'.toList).toArray := by apply Array.ext'; simp
                simp [execOp, ho, resolve, hf, hg, Deferred.ofValue, invoke, callFunc, hfn, hnn, hbn, ha]
              unfold Oper.wp
              rw [hrun]
              refine Calls.mono (C.runs β w _ W hl2 hF) ?_
              rintro e w' ⟨v, β', rfl, hv', hp⟩
              exact hK v w' β' hv' hp
          · cases e
        · cases e
      · cases e
  · exact (evOp_ok E W hF e).wp hK

def CallGrow (call : CallF) : Prop := ∀ f xs m x m', call f xs m = some (x, m') → Grow m m'
theorem CallOk.gr {call : CallF} (h : CallOk P call) : CallGrow call := fun f xs m x m' e => (h f xs m x m' e).grow

theorem stepOp_grow {env : Env} {o : Op} {x : Value} {m m' : Mem} {call : CallF} (hcall : CallGrow call) (e : stepOp P call env o m = some (x, m')) : Grow m m' := by
  unfold stepOp at e
  split at e
  · split at e
    · cases e
    · split at e
      · exact evBuiltin_grow e
      · split at e
        · split at e
          · exact hcall _ _ _ _ _ e
          · cases e
        · cases e
      · cases e
  · exact evOp_grow e

/-- A step that reads no memory and writes none. -/
theorem stepOp_idle {env : Env} {o : Op} {x : Value} {m m' : Mem} {call : CallF} (hw : writes o = false) (hr : readsMemP P o = false) (e : stepOp P call env o m = some (x, m')) :
    Idle (stepOp P call env o) m x m' := by
  cases o
  case call c =>
    obtain ⟨callee, args, argTypes⟩ := c
    simp only [stepOp] at e
    cases hx : evs env args.toList with
    | none => rw [hx] at e; cases e
    | some xs =>
      rw [hx] at e
      dsimp only at e
      cases callee with
      | value f => cases hw
      | invoke r n => cases e
      | builtin b =>
        dsimp only at e
        have hS : ∀ m2, stepOp P call env (.call ⟨.builtin b, args, argTypes⟩) m2 = evBuiltin P b argTypes.toList xs m2 := fun m2 => by simp only [stepOp, hx]
        refine Idle.congr hS ?_
        cases b
        case append => cases hw
        case copy => cases hw
        case len =>
          match xs with
          | [y] => exact Idle.of_keep (v := opLen P argTypes.toList.head? y) (fun m2 => by simp only [evBuiltin]; cases opLen P argTypes.toList.head? y <;> rfl) e
          | [] => cases e
          | _ :: _ :: _ => cases e
        case min =>
          match xs with
          | y :: r => exact Idle.of_keep (v := foldV min2V y r) (fun m2 => by simp only [evBuiltin]; cases foldV min2V y r <;> rfl) e
          | [] => cases e
        case max =>
          match xs with
          | y :: r => exact Idle.of_keep (v := foldV max2V y r) (fun m2 => by simp only [evBuiltin]; cases foldV max2V y r <;> rfl) e
          | [] => cases e
        all_goals (unfold evBuiltin at e; split at e <;> first | (cases e; done) | simp_all)
  all_goals exact evOp_idle (env := env) hw hr e
end Go.AM
