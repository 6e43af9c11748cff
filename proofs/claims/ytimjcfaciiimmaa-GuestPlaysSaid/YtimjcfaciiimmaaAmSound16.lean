/- Code, functions. -/
import Derived.Test.YtimjcfaciiimmaaAmSound15
import Derived.Deep.LoopGhost
import Derived.Scope
set_option linter.unusedSimpArgs false
set_option linter.unusedVariables false
namespace Go.AM
open Go
variable {P : Program}

def exitOf : Ex → Exit
  | .normal => .normal
  | .exit i => .exit i
  | .ret => .ret

/-- What the run of code tells. -/
def CodeOk (P : Program) (N : Nat) (c : Code) (env : Env) (m : Mem) (ex : Ex) (e : Env) (m' : Mem) : Prop :=
  Grow m m' ∧ ∀ {a : Act} {w : World} {β : Ren} {Q : Exit → Act → World → Prop}, ERel β N env a → WRel P β m w → Free β m m' →
    (∀ a' w' β', ERel β' N e a' → a'.defers = a.defers → Post P β m w m' β' w' → Q (exitOf ex) a' w') → c.wp P Q a w

theorem Free.left {β : Ren} {m m1 m2 : Mem} (h : Free β m m2) (g : Grow m1 m2) : Free β m m1 := fun i h1 h2 => h i h1 (Nat.lt_of_lt_of_le h2 g.next)

theorem Free.right {β β1 : Ren} {m m1 m2 : Mem} {w w1 : World} (h : Free β m m2) (p : Post P β m w m1 β1 w1) : Free β1 m1 m2 := fun i h1 h2 => by
  rw [p.out i (.inr h1)]
  exact h i (Nat.le_trans p.le h1) h2

/-- One code behind another. -/
theorem codeOk_then {N : Nat} {b c : Code} {env e1 e2 : Env} {m m1 m2 : Mem} {ex : Ex} (h1 : CodeOk P N b env m .normal e1 m1) (h2 : CodeOk P N c e1 m1 ex e2 m2) :
    Grow m m2 ∧ ∀ {a : Act} {w : World} {β : Ren} {Q : Exit → Act → World → Prop}, ERel β N env a → WRel P β m w → Free β m m2 →
      (∀ a' w' β', ERel β' N e2 a' → a'.defers = a.defers → Post P β m w m2 β' w' → Q (exitOf ex) a' w') → b.wp P (Exit.then (c.wp P Q) Q) a w := by
  refine ⟨h1.1.trans h2.1, fun {a w β Q} E W hF K => ?_⟩
  refine h1.2 E W (hF.left h2.1) ?_
  intro a1 w1 β1 E1 d1 p1
  refine h2.2 E1 p1.rel (hF.right p1) ?_
  intro a2 w2 β2 E2 d2 p2
  exact K a2 w2 β2 E2 (d2.trans d1) (p1.trans p2 hF)

theorem runCode_ok {call : CallF} (hm : P.follows .mixedOrders = true) (hcall : CallOk P call) {N0 N : Nat} (hN : N0 ≤ N) : ∀ (c : Code), codeOkB N0 c = true → ∀ (n : Nat) (env : Env) (m : Mem) (ex : Ex) (e : Env) (m' : Mem),
    runCode P call n c env m = some (ex, e, m') → CodeOk P N c env m ex e m' := by
  intro c
  induction c with
  | skip =>
    intro _ n env m ex e m' h
    cases n with
    | zero => cases h
    | succ n =>
      simp only [runCode, Option.some.injEq, Prod.mk.injEq] at h
      obtain ⟨rfl, rfl, rfl⟩ := h
      exact ⟨Grow.refl _, fun E W hF K => wp_skip (K _ _ _ E rfl (Post.refl W))⟩
  | label l =>
    intro _ n env m ex e m' h
    cases n with
    | zero => cases h
    | succ n =>
      simp only [runCode, Option.some.injEq, Prod.mk.injEq] at h
      obtain ⟨rfl, rfl, rfl⟩ := h
      exact ⟨Grow.refl _, fun E W hF K => wp_label (K _ _ _ E rfl (Post.refl W))⟩
  | exit id =>
    intro _ n env m ex e m' h
    cases n with
    | zero => cases h
    | succ n =>
      simp only [runCode, Option.some.injEq, Prod.mk.injEq] at h
      obtain ⟨rfl, rfl, rfl⟩ := h
      exact ⟨Grow.refl _, fun E W hF K => wp_exit (K _ _ _ E rfl (Post.refl W))⟩
  | ret =>
    intro _ n env m ex e m' h
    cases n with
    | zero => cases h
    | succ n =>
      simp only [runCode, Option.some.injEq, Prod.mk.injEq] at h
      obtain ⟨rfl, rfl, rfl⟩ := h
      exact ⟨Grow.refl _, fun E W hF K => wp_ret (K _ _ _ E rfl (Post.refl W))⟩
  | region id ops draw =>
    intro hc n env m ex e m' h
    cases n with
    | zero => cases h
    | succ n =>
      simp only [runCode] at h
      simp only [codeOkB, Bool.and_eq_true, List.all_eq_true, Bool.or_eq_true, Bool.not_eq_true'] at hc
      split at h
      · rename_i e1 m1 hr
        simp only [Option.some.injEq, Prod.mk.injEq] at h
        obtain ⟨rfl, rfl, rfl⟩ := h
        refine runRegion_ok hm hcall ?_ ?_ hr
        · intro i o t ho hd
          have := hc.1 o (by simpa using Array.mem_of_getElem? ho)
          rw [hd] at this
          have : t < N0 := by simpa using this
          omega
        · intro hd
          refine regOk_of ?_
          rcases hc.2 with h' | h'
          · rw [hd] at h'; cases h'
          · exact h'
      · cases h
  | seq b c ihb ihc =>
    intro hc n env m ex e m' h
    cases n with
    | zero => cases h
    | succ n =>
      simp only [codeOkB, Bool.and_eq_true] at hc
      simp only [runCode] at h
      split at h
      · rename_i e1 m1 h1
        obtain ⟨g, k⟩ := codeOk_then (ihb hc.1 n _ _ _ _ _ h1) (ihc hc.2 n _ _ _ _ _ h)
        exact ⟨g, fun E W hF K => wp_seq (k E W hF K)⟩
      · rename_i r hne
        obtain ⟨g, k⟩ := ihb hc.1 n _ _ _ _ _ h
        refine ⟨g, fun E W hF K => wp_seq (k E W hF ?_)⟩
        intro a' w' β' E' d' p'
        have := K a' w' β' E' d' p'
        cases ex with
        | normal => exact (hne e m' h).elim
        | exit i => exact this
        | ret => exact this
  | cond x b c ihb ihc =>
    intro hc n env m ex e m' h
    cases n with
    | zero => cases h
    | succ n =>
      simp only [codeOkB, Bool.and_eq_true] at hc
      simp only [runCode] at h
      split at h
      · rename_i hx
        obtain ⟨g, k⟩ := ihb hc.1 n _ _ _ _ _ h
        refine ⟨g, fun {a w β Q} E W hF K => wp_cond_true ?_ (k E W hF K)⟩
        have r := ev1_rel E hx
        generalize a.eval x = u at r
        cases r; rfl
      · rename_i hx
        obtain ⟨g, k⟩ := ihc hc.2 n _ _ _ _ _ h
        refine ⟨g, fun {a w β Q} E W hF K => wp_cond_false ?_ (k E W hF K)⟩
        have r := ev1_rel E hx
        generalize a.eval x = u at r
        cases r; rfl
      · cases h
  | block id c ih =>
    intro hc n env m ex e m' h
    cases n with
    | zero => cases h
    | succ n =>
      simp only [codeOkB] at hc
      simp only [runCode] at h
      split at h
      · rename_i i e1 m1 h1
        obtain ⟨g, k⟩ := ih hc n _ _ _ _ _ h1
        split at h
        · rename_i hi
          simp only [Option.some.injEq, Prod.mk.injEq] at h
          obtain ⟨rfl, rfl, rfl⟩ := h
          refine ⟨g, fun E W hF K => wp_block (k E W hF ?_)⟩
          intro a' w' β' E' d' p'
          simp only [exitOf, Exit.inBlock, hi, if_true]
          exact K a' w' β' E' d' p'
        · rename_i hi
          simp only [Option.some.injEq, Prod.mk.injEq] at h
          obtain ⟨rfl, rfl, rfl⟩ := h
          refine ⟨g, fun E W hF K => wp_block (k E W hF ?_)⟩
          intro a' w' β' E' d' p'
          simp only [exitOf, Exit.inBlock, hi, if_false]
          exact K a' w' β' E' d' p'
      · rename_i r hne
        obtain ⟨g, k⟩ := ih hc n _ _ _ _ _ h
        refine ⟨g, fun E W hF K => wp_block (k E W hF ?_)⟩
        intro a' w' β' E' d' p'
        have := K a' w' β' E' d' p'
        cases ex with
        | normal => exact this
        | exit i => exact (hne i e m' h).elim
        | ret => exact this
  | loop c ih =>
    intro hc
    simp only [codeOkB] at hc
    have grow : ∀ (n : Nat) (env : Env) (m : Mem) (ex : Ex) (e : Env) (m' : Mem), runCode P call n (.loop c) env m = some (ex, e, m') → Grow m m' := by
      intro n
      induction n with
      | zero => intro env m ex e m' h; cases h
      | succ n ihn =>
        intro env m ex e m' h
        simp only [runCode] at h
        split at h
        · rename_i e1 m1 h1
          exact (ih hc n _ _ _ _ _ h1).1.trans (ihn _ _ _ _ _ h)
        · exact (ih hc n _ _ _ _ _ h).1
    intro n env m ex e m' h
    refine ⟨grow n _ _ _ _ _ h, fun {a w β Q} E W hF K => ?_⟩
    refine wp_loop_ghost (fun n a1 w1 => ∃ env1 m1 β1, runCode P call n (.loop c) env1 m1 = some (ex, e, m') ∧ ERel β1 N env1 a1 ∧ a1.defers = a.defers ∧ WRel P β1 m1 w1 ∧ Free β1 m1 m' ∧ Post P β m w m1 β1 w1) n ⟨env, m, β, h, E, rfl, W, hF, Post.refl W⟩ ?_
    rintro n a1 w1 ⟨env1, m1, β1, h1, E1, d1, W1, F1, p1⟩
    cases n with
    | zero => cases h1
    | succ n =>
      simp only [runCode] at h1
      split at h1
      · rename_i e2 m2 h2
        refine (ih hc n _ _ _ _ _ h2).2 E1 W1 (F1.left (grow n _ _ _ _ _ h1)) ?_
        intro a2 w2 β2 E2 d2 p2
        exact ⟨n, Nat.lt_succ_self n, e2, m2, β2, h1, E2, d2.trans d1, p2.rel, F1.right p2, p1.trans p2 (hF.left (grow n _ _ _ _ _ h1))⟩
      · rename_i r hne
        refine (ih hc n _ _ _ _ _ h1).2 E1 W1 F1 ?_
        intro a2 w2 β2 E2 d2 p2
        have := K a2 w2 β2 E2 (d2.trans d1) (p1.trans p2 hF)
        cases ex with
        | normal => exact (hne e m' h1).elim
        | exit i => exact this
        | ret => exact this
  | scope c ih =>
    intro hc n env m ex e m' h
    cases n with
    | zero => cases h
    | succ n =>
      simp only [codeOkB] at hc
      simp only [runCode] at h
      obtain ⟨g, k⟩ := ih hc n _ _ _ _ _ h
      refine ⟨g, fun E W hF K => wp_scope_straight (k E W hF ?_)⟩
      intro a' w' β' E' d' p'
      have := K a' w' β' E' d' p'
      cases ex <;> exact this
  | rangeFunc f ps x b _ _ =>
    intro _ n env m ex e m' h
    cases n <;> cases h
  | goto l =>
    intro _ n env m ex e m' h
    cases n <;> cases h
  | refuse y =>
    intro _ n env m ex e m' h
    cases n <;> cases h

theorem load_var {t : TypeId} {β : Ren} {m : Mem} {w : World} {a u x : Value} (W : WRel P β m w) (ha : VRel β a u) (e : opLoad P t a m = some x) :
    ∃ v, (do loadVar t (← asAddr u) : Sem Value).run P w = .ok v w ∧ VRel β x v := by
  obtain ⟨v, h, r⟩ := opLoad_rel W ha e
  refine ⟨v, ?_, r⟩
  rw [← h]
  cases ha <;> first | (simp [opLoad] at e; done) | simp [asAddr, Instr.loadAt, Instr.sureAddr]

def oneResult (tmps : Array Value) : ResultVar → Sem Value
  | .tmp t => pure (tmps.getD t undef)
  | .cell a t => do loadVar t (← asAddr (tmps.getD a undef))

theorem results_rel {β : Ren} {m : Mem} {w : World} {N : Nat} {env : Env} {a : Act} (E : ERel β N env a) (W : WRel P β m w) : ∀ {l : List ResultVar} {xs : List Value}, resOf P env m l = some xs →
    ∃ vs, (l.mapM (oneResult a.tmps)).run P w = .ok vs w ∧ LRel β xs vs
  | [], xs, h => by
    obtain rfl := Option.some.inj h
    exact ⟨[], rfl, trivial⟩
  | .tmp t :: r, xs, h => by
    simp only [resOf] at h
    split at h
    · rename_i v l hv hl
      obtain rfl := Option.some.inj h
      obtain ⟨u, hu, ru⟩ := E.has t v hv
      obtain ⟨us, h1, h2⟩ := results_rel E W hl
      refine ⟨u :: us, ?_, ru, h2⟩
      have : a.tmps.getD t undef = u := by simp [Array.getD_eq_getD_getElem?, hu]
      simp [List.mapM_cons, oneResult, this, h1]
    · cases h
  | .cell c t :: r, xs, h => by
    simp only [resOf] at h
    split at h
    · cases h
    · rename_i y hy
      split at h
      · rename_i v l hv hl
        obtain rfl := Option.some.inj h
        obtain ⟨u, hu, ru⟩ := E.has c y hy
        obtain ⟨z, hz, rz⟩ := load_var W ru hv
        obtain ⟨us, h1, h2⟩ := results_rel E W hl
        refine ⟨z :: us, ?_, rz, h2⟩
        have : a.tmps.getD c undef = u := by simp [Array.getD_eq_getD_getElem?, hu]
        have hz' : (oneResult a.tmps (.cell c t)).run P w = .ok z w := by simp only [oneResult, this]; exact hz
        simp [List.mapM_cons, hz', h1]
      · cases h

theorem results_run {β : Ren} {m : Mem} {w : World} {N : Nat} {env : Env} {a : Act} {fn : Func} {l : List Value} (E : ERel β N env a) (W : WRel P β m w) (h : resOf P env m fn.results.toList = some l) :
    ∃ v, (results fn a.tmps).run P w = .ok v w ∧ VRel β (oneOf l) v := by
  obtain ⟨vs, h1, h2⟩ := results_rel E W h
  have hM : (fn.results.mapM (oneResult a.tmps)).run P w = .ok vs.toArray w := by
    rw [Array.mapM_eq_mapM_toList]
    simp [h1]
  have hR : (results fn a.tmps).run P w = .ok (if h : vs.toArray.size = 1 then vs.toArray[0] else .tuple vs.toArray) w := by
    have : results fn a.tmps = (do
        let vs ← fn.results.mapM (oneResult a.tmps)
        pure (if h : vs.size = 1 then vs[0] else .tuple vs)) := by
      unfold results
      congr 1
    rw [this]
    simp [hM]
  refine ⟨_, hR, ?_⟩
  clear h1 hM hR
  match l, vs, h2 with
  | [x], [v], h => simpa [oneOf] using h.1
  | [], [], h => exact .tuple rfl (fun i x x' hx => by simp at hx)
  | x :: y :: r, u :: v :: s, h =>
    have hne : ¬ ((u :: v :: s).toArray.size = 1) := by simp
    obtain ⟨hl, hg⟩ := LRel.get h
    rw [dif_neg hne]
    exact .tuple (by simpa using hl) (fun i a b ha hb => hg i a b (by simpa using ha) (by simpa using hb))

theorem callF_ok (hP : progOkB P = true) : ∀ (n : Nat), CallOk P (callF P n)
  | 0 => fun f xs m x m' h => by cases h
  | n + 1 => fun f xs m x m' h => by
    have ih := callF_ok hP n
    simp only [progOkB, Bool.and_eq_true, List.all_eq_true] at hP
    simp only [callF] at h
    split at h
    · cases h
    · rename_i fn hfn
      split at h
      · cases h
      · rename_i c hc
        split at h
        · cases h
        · rename_i hname
          have hcok : codeOkB fn.ntmps c = true := by
            have := hP.2 fn (by simpa using Array.mem_of_getElem? hfn)
            simpa [funcOkB, hc] using this
          split at h
          · cases h
          · rename_i ex e f hne hrun
            split at h
            · rename_i l hl
              simp only [Option.some.injEq, Prod.mk.injEq] at h
              obtain ⟨rfl, rfl⟩ := h
              have key : ∀ N, fn.ntmps ≤ N → CodeOk P N c (envOf xs) m ex e f := fun N hN => runCode_ok hP.1 ih hN c hcok n _ _ _ _ _ hrun
              refine ⟨(key _ (Nat.le_refl _)).1, ⟨fn, hfn, by simp [hc], by simpa using hname⟩, fun β w vs W hl' hF => ?_⟩
              refine calls_of_wp hfn hc ?_
              obtain ⟨hlen, hget⟩ := LRel.get hl'
              refine (key (vs.length + (fn.ntmps - vs.length)) (by omega)).2 (β := β) ⟨by simp, fun t x ht => ?_⟩ W hF ?_
              · simp only [envOf] at ht
                have htl : t < xs.length := by
                  rcases Nat.lt_or_ge t xs.length with h' | h'
                  · exact h'
                  · rw [List.getElem?_eq_none h'] at ht; cases ht
                have htv : t < vs.length := by omega
                refine ⟨vs[t], ?_, hget t x vs[t] ht (List.getElem?_eq_getElem htv)⟩
                rw [Array.getElem?_append_left (by simpa using htv)]
                simp [htv]
              · intro a' w' β' E' d' p'
                obtain ⟨v, hv, rv⟩ := results_run E' p'.rel hl
                cases ex with
                | exit i => exact (hne i rfl).elim
                | normal => exact ⟨d', v, hv, v, β', rfl, rv, p'⟩
                | ret => exact ⟨d', v, hv, v, β', rfl, rv, p'⟩
            · cases h
          · cases h
end Go.AM
