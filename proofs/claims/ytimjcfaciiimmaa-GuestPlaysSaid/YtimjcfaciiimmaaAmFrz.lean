/- Blocks that nobody writes any more: frozen ones. A run that comes out with blocks frozen comes out without; what is frozen stays. -/
import Derived.Test.YtimjcfaciiimmaaAmWpA
set_option linter.unusedSimpArgs false
set_option linter.unusedVariables false
namespace Go.AM
open Go
variable {P : Program} {M m m1 m2 m3 : Mem}

/-- m is M with some blocks frozen. -/
def Frz (M m : Mem) : Prop := m.next = M.next ∧ ∀ i, m.get i = M.get i ∨ ∃ cs e, M.get i = some (.cells cs e true) ∧ m.get i = some (.cells cs e false)
theorem Frz.refl (m : Mem) : Frz m m := ⟨rfl, fun _ => .inl rfl⟩
theorem Frz.trans (h : Frz m1 m2) (k : Frz m2 m3) : Frz m1 m3 := by
  refine ⟨k.1.trans h.1, fun i => ?_⟩
  rcases h.2 i with h | ⟨cs, e, h1, h2⟩ <;> rcases k.2 i with k | ⟨ds, f, k1, k2⟩
  · exact .inl (k.trans h)
  · exact .inr ⟨ds, f, by rw [← h, k1], k2⟩
  · exact .inr ⟨cs, e, h1, by rw [k, h2]⟩
  · rw [h2] at k1; cases k1
theorem Frz.cells (h : Frz M m) {i : Nat} {cs : List Value} {e : TypeId} {o : Bool} (g : m.get i = some (.cells cs e o)) : ∃ o', M.get i = some (.cells cs e o') := by
  rcases h.2 i with h | ⟨ds, f, h1, h2⟩
  · exact ⟨o, by rw [← h, g]⟩
  · rw [h2] at g
    injection g with g
    injection g with g1 g2 g3
    subst g1 g2
    exact ⟨true, h1⟩
theorem Frz.owned (h : Frz M m) {i : Nat} {cs : List Value} {e : TypeId} (g : m.get i = some (.cells cs e true)) : M.get i = some (.cells cs e true) := by
  rcases h.2 i with h | ⟨ds, f, h1, h2⟩
  · rw [← h, g]
  · rw [h2] at g; cases g
theorem Frz.mapped (h : Frz M m) {i : Nat} {es : List (Value × Value)} (g : m.get i = some (.map es)) : M.get i = some (.map es) := by
  rcases h.2 i with h | ⟨ds, f, h1, h2⟩
  · rw [← h, g]
  · rw [h2] at g; cases g
theorem Frz.new (h : Frz M m) (b : Blk) : Frz (M.new b) (m.new b) := by
  refine ⟨congrArg (· + 1) h.1, fun i => ?_⟩
  simp only [Mem.new, h.1]
  split
  · exact .inl rfl
  · exact h.2 i
theorem Frz.set (h : Frz M m) (i : Nat) (b : Blk) : Frz (M.set i b) (m.set i b) := by
  refine ⟨h.1, fun j => ?_⟩
  simp only [Mem.set]
  split
  · exact .inl rfl
  · exact h.2 j
theorem Frz.kill (h : Frz M m) (i : Nat) : Frz (M.kill i) (m.kill i) := by
  refine ⟨h.1, fun j => ?_⟩
  simp only [Mem.kill]
  split
  · exact .inl rfl
  · exact h.2 j

theorem frz_shown (h : Frz M m) {sz n : Nat} {x : Value} {cs : List Value} (e : shown sz n x m = some cs) : shown sz n x M = some cs := by
  unfold shown at e ⊢
  split at e
  · exact e
  · split at e
    · rename_i h0; rw [if_pos h0]; exact e
    · rename_i h0
      rw [if_neg h0]
      split at e
      · rename_i hg
        obtain ⟨o', hg'⟩ := h.cells hg
        rw [hg']
        exact e
      · cases e
  · cases e

theorem frz_load (h : Frz M m) {t : TypeId} {a v : Value} (e : opLoad P t a m = some v) : opLoad P t a M = some v := by
  unfold opLoad at e ⊢
  split at e
  · split at e
    · rename_i hg
      obtain ⟨o', hg'⟩ := h.cells hg
      simp only [hg']
      exact e
    · cases e
  · cases e

theorem frz_store (h : Frz M m) {t : TypeId} {a v : Value} (e : opStore P t a v m = some m1) : ∃ M1, opStore P t a v M = some M1 ∧ Frz M1 m1 := by
  unfold opStore at e ⊢
  split at e
  · split at e
    · rename_i hg
      simp only [h.owned hg]
      split at e
      · rename_i hc
        rw [if_pos hc]
        obtain rfl := Option.some.inj e
        exact ⟨_, rfl, h.set _ _⟩
      · cases e
    · cases e
  · cases e

theorem frz_alloc (h : Frz M m) {t : TypeId} {v : Value} (e : opAlloc P t m = some (v, m1)) : ∃ M1, opAlloc P t M = some (v, M1) ∧ Frz M1 m1 := by
  unfold opAlloc at e ⊢
  split at e
  · cases e
  · split at e
    · obtain ⟨rfl, rfl⟩ := Prod.mk.inj (Option.some.inj e)
      rename_i hz
      rw [if_pos hz, h.1]
      exact ⟨_, rfl, h.new _⟩
    · cases e

theorem frz_box (h : Frz M m) {t : TypeId} {x v : Value} (e : opBox t x m = some (v, m1)) : ∃ M1, opBox t x M = some (v, M1) ∧ Frz M1 m1 := by
  unfold opBox at e ⊢
  split at e
  · obtain ⟨rfl, rfl⟩ := Prod.mk.inj (Option.some.inj e)
    rename_i hz
    rw [if_pos hz, h.1]
    exact ⟨_, rfl, h.new _⟩
  · cases e

theorem frz_buildSlice (h : Frz M m) {t : TypeId} {len : Nat} {parts : List (Nat × Value)} {v : Value} (e : opBuildSlice P t len parts m = some (v, m1)) : ∃ M1, opBuildSlice P t len parts M = some (v, M1) ∧ Frz M1 m1 := by
  unfold opBuildSlice at e ⊢
  split at e
  · split at e
    · split at e
      · rename_i hz
        rw [if_pos hz]
        split at e
        · cases e
        · obtain ⟨rfl, rfl⟩ := Prod.mk.inj (Option.some.inj e)
          rw [h.1]
          exact ⟨_, rfl, h.new _⟩
      · cases e
    · cases e
  · cases e

theorem frz_makeSlice (h : Frz M m) {t : TypeId} {l c v : Value} (e : opMakeSlice P t l c m = some (v, m1)) : ∃ M1, opMakeSlice P t l c M = some (v, M1) ∧ Frz M1 m1 := by
  unfold opMakeSlice at e ⊢
  split at e
  · split at e
    · split at e
      · rename_i hz
        rw [if_pos hz]
        obtain ⟨rfl, rfl⟩ := Prod.mk.inj (Option.some.inj e)
        rw [h.1]
        exact ⟨_, rfl, h.new _⟩
      · cases e
    · cases e
  · cases e

theorem frz_convert (h : Frz M m) {s d : TypeId} {x v : Value} (e : opConvert P s d x m = some (v, m1)) : ∃ M1, opConvert P s d x M = some (v, M1) ∧ Frz M1 m1 := by
  unfold opConvert at e ⊢
  split at e
  · obtain ⟨rfl, rfl⟩ := Prod.mk.inj (Option.some.inj e)
    exact ⟨_, rfl, h⟩
  · obtain ⟨rfl, rfl⟩ := Prod.mk.inj (Option.some.inj e)
    exact ⟨_, rfl, h⟩
  · split at e
    · split at e
      · rename_i hz
        rw [if_pos hz]
        obtain ⟨rfl, rfl⟩ := Prod.mk.inj (Option.some.inj e)
        rw [h.1]
        exact ⟨_, rfl, h.new _⟩
      · cases e
    · cases e
  · split at e
    · rename_i hg
      rw [h.owned hg]
      split at e
      · rename_i hz
        simp only [*, if_true]
        obtain ⟨rfl, rfl⟩ := Prod.mk.inj (Option.some.inj e)
        exact ⟨_, rfl, h⟩
      · cases e
    · cases e
  · split at e
    · split at e
      · rename_i hs
        rw [frz_shown h hs]
        split at e
        · obtain ⟨rfl, rfl⟩ := Prod.mk.inj (Option.some.inj e)
          rename_i hb
          simp only [hb]
          exact ⟨_, rfl, h⟩
        · cases e
      · cases e
    · cases e
  · cases e

theorem frz_addedBy (h : Frz M m) {xt : Option TypeId} {s : Nat} {z x : Value} {r : Nat × List Value} (e : addedBy P xt s z x m = some r) : addedBy P xt s z x M = some r := by
  unfold addedBy at e ⊢
  split at e
  · cases e
  · split at e
    · exact e
    · exact e
    · split at e
      · rename_i hs
        rw [frz_shown h hs]
        exact e
      · cases e
    · cases e

theorem frz_append (h : Frz M m) {ts : List TypeId} {xs : List Value} {v : Value} (e : opAppend P ts xs m = some (v, m1)) : ∃ M1, opAppend P ts xs M = some (v, M1) ∧ Frz M1 m1 := by
  unfold opAppend at e ⊢
  split at e
  · split at e
    · split at e
      · split at e
        · rename_i hz
          rw [if_pos hz]
          split at e
          · rename_i ha
            rw [frz_addedBy h ha]
            dsimp only at e ⊢
            split at e
            · rename_i h0
              rw [if_pos h0]
              obtain ⟨rfl, rfl⟩ := Prod.mk.inj (Option.some.inj e)
              exact ⟨_, rfl, h⟩
            · rename_i h0
              rw [if_neg h0]
              split at e
              · rename_i hl
                rw [if_pos hl]
                split at e
                · obtain ⟨rfl, rfl⟩ := Prod.mk.inj (Option.some.inj e)
                  rw [h.1]
                  exact ⟨_, rfl, h.new _⟩
                · split at e
                  · rename_i hg
                    rw [h.owned hg]
                    split at e
                    · rename_i hc
                      simp only [if_pos hc]
                      obtain ⟨rfl, rfl⟩ := Prod.mk.inj (Option.some.inj e)
                      rw [h.1]
                      exact ⟨_, rfl, (h.kill _).new _⟩
                    · cases e
                  · cases e
                · cases e
              · cases e
          · cases e
        · cases e
      · cases e
    · cases e
  · cases e

theorem frz_copy (h : Frz M m) {ts : List TypeId} {xs : List Value} {v : Value} (e : opCopy P ts xs m = some (v, m1)) : ∃ M1, opCopy P ts xs M = some (v, M1) ∧ Frz M1 m1 := by
  unfold opCopy at e ⊢
  split at e
  · split at e
    · split at e
      · rename_i hg
        rw [h.owned hg]
        split at e
        · rename_i hs
          simp only [frz_shown h hs, *]
          split at e
          · rename_i h0
            rw [if_pos h0]
            obtain ⟨rfl, rfl⟩ := Prod.mk.inj (Option.some.inj e)
            exact ⟨_, rfl, h⟩
          · rename_i h0
            rw [if_neg h0]
            split at e
            · rename_i hc
              rw [if_pos hc]
              obtain ⟨rfl, rfl⟩ := Prod.mk.inj (Option.some.inj e)
              exact ⟨_, rfl, h.set _ _⟩
            · cases e
        · cases e
      · cases e
    · cases e
  · cases e

theorem frz_mapAt (h : Frz M m) {x : Value} {es : List (Value × Value)} (e : mapAt m x = some es) : mapAt M x = some es := by
  unfold mapAt at e ⊢
  split at e
  · exact e
  · split at e
    · rename_i hg
      rw [h.mapped hg]
      exact e
    · cases e
  · cases e
theorem frz_update (h : Frz M m) {t : TypeId} {a k v : Value} (e : opMapUpdate P t a k v m = some m1) : ∃ M1, opMapUpdate P t a k v M = some M1 ∧ Frz M1 m1 := by
  unfold opMapUpdate at e ⊢
  split at e
  · split at e
    · rename_i hg
      simp only [h.mapped hg]
      split at e
      · rename_i hk
        rw [if_pos hk]
        split at e
        · split at e
          · split at e
            · rename_i hs
              obtain rfl := Option.some.inj e
              simp only [if_pos hs, *]
              exact ⟨_, rfl, h.set _ _⟩
            · cases e
          · cases e
        · obtain rfl := Option.some.inj e
          exact ⟨_, rfl, h.set _ _⟩
        · cases e
      · cases e
    · cases e
  · cases e
theorem frz_delete (h : Frz M m) {ts : List TypeId} {xs : List Value} {v : Value} (e : opDelete P ts xs m = some (v, m1)) : ∃ M1, opDelete P ts xs M = some (v, M1) ∧ Frz M1 m1 := by
  unfold opDelete at e ⊢
  split at e
  · split at e
    · split at e
      · rename_i hg
        simp only [h.mapped hg]
        split at e
        · rename_i hk
          rw [if_pos hk]
          split at e
          · obtain ⟨rfl, rfl⟩ := Prod.mk.inj (Option.some.inj e)
            exact ⟨_, rfl, h.set _ _⟩
          · obtain ⟨rfl, rfl⟩ := Prod.mk.inj (Option.some.inj e)
            exact ⟨_, rfl, h.set _ _⟩
          · cases e
        · cases e
      · cases e
    · cases e
  · cases e

theorem keep_frz (h : Frz M m) {o : Option Value} {v : Value} (e : keep m o = some (v, m1)) : ∃ M1, keep M o = some (v, M1) ∧ Frz M1 m1 := by
  unfold keep at e ⊢
  split at e
  · obtain ⟨rfl, rfl⟩ := Prod.mk.inj (Option.some.inj e)
    exact ⟨_, rfl, h⟩
  · cases e
theorem keep_inv {o : Option Value} {v : Value} (e : keep m o = some (v, m1)) : o = some v ∧ m1 = m := by
  unfold keep at e
  split at e
  · obtain ⟨rfl, rfl⟩ := Prod.mk.inj (Option.some.inj e)
    exact ⟨rfl, rfl⟩
  · cases e

theorem frz_builtin (h : Frz M m) {b : Builtin} {ts : List TypeId} {xs : List Value} {v : Value} (e : evBuiltin P b ts xs m = some (v, m1)) : ∃ M1, evBuiltin P b ts xs M = some (v, M1) ∧ Frz M1 m1 := by
  unfold evBuiltin at e ⊢
  split at e
  · exact frz_append h e
  · split at e
    · obtain ⟨rfl, rfl⟩ := Prod.mk.inj (Option.some.inj e)
      exact ⟨_, rfl, h⟩
    · obtain ⟨h1, rfl⟩ := keep_inv e
      exact ⟨_, by simp only [mapLen_ext (fun x es => frz_mapAt h) h1, *]; rfl, h⟩
  · split at e
    · obtain ⟨rfl, rfl⟩ := Prod.mk.inj (Option.some.inj e)
      exact ⟨_, rfl, h⟩
    · cases e
  · split at e
    · obtain ⟨rfl, rfl⟩ := Prod.mk.inj (Option.some.inj e)
      exact ⟨_, rfl, h⟩
    · cases e
  · exact frz_copy h e
  · exact frz_delete h e
  · cases e

theorem frz_evOp (h : Frz M m) {env : Env} {o : Op} {v : Value} (e : evOp P env o m = some (v, m1)) : ∃ M1, evOp P env o M = some (v, M1) ∧ Frz M1 m1 := by
  cases o
  case load t a =>
    simp only [evOp] at e ⊢
    split at e
    · rename_i x hx
      cases hl : opLoad P t x m with
      | none => rw [hl] at e; cases e
      | some x =>
        rw [hl] at e
        obtain ⟨rfl, rfl⟩ := Prod.mk.inj (Option.some.inj e)
        exact ⟨_, by rw [frz_load h hl]; rfl, h⟩
    · cases e
  case makeMap t r =>
    cases r with
    | some r => cases e
    | none =>
      obtain ⟨rfl, rfl⟩ := Prod.mk.inj (Option.some.inj e)
      exact ⟨_, by simp only [evOp, h.1], h.new _⟩
  case lookup t a k two =>
    simp only [evOp] at e ⊢
    split at e
    · obtain ⟨h1, rfl⟩ := keep_inv e
      exact ⟨_, by simp only [lookup_ext (fun x es => frz_mapAt h) h1]; rfl, h⟩
    · cases e
  case mapUpdate t a k x =>
    simp only [evOp] at e ⊢
    split at e
    · split at e
      · rename_i hs
        obtain ⟨M1, h1, h2⟩ := frz_update h hs
        obtain ⟨rfl, rfl⟩ := Prod.mk.inj (Option.some.inj e)
        exact ⟨M1, by simp only [h1], h2⟩
      · cases e
    · cases e
  case call c =>
    obtain ⟨callee, args, ts⟩ := c
    cases callee with
    | builtin b =>
      cases b
      case len =>
        simp only [evOp] at e ⊢
        split at e
        · obtain ⟨h1, rfl⟩ := keep_inv e
          exact ⟨_, by simp only [mapLen_ext (fun x es => frz_mapAt h) h1]; rfl, h⟩
        · cases e
      all_goals cases e
    | value f => cases e
    | invoke r n => cases e
  case store t a x =>
    simp only [evOp] at e ⊢
    split at e
    · split at e
      · rename_i hs
        obtain ⟨M1, h1, h2⟩ := frz_store h hs
        obtain ⟨rfl, rfl⟩ := Prod.mk.inj (Option.some.inj e)
        exact ⟨M1, by rw [h1], h2⟩
      · cases e
    · cases e
  case slice t x lo hi mx =>
    cases mx with
    | some q => cases e
    | none =>
      simp only [evOp] at e ⊢
      split at e
      · exact keep_frz h e
      · cases e
  case makeFunc f first cap =>
    cases f
    case func g =>
      simp only [evOp] at e ⊢
      split at e
      · rename_i h0
        rw [if_pos h0]
        split at e
        · obtain ⟨rfl, rfl⟩ := Prod.mk.inj (Option.some.inj e)
          exact ⟨_, rfl, h⟩
        · cases e
      · cases e
    all_goals (cases e)
  all_goals first
    | (cases e; done)
    | (simp only [evOp] at e ⊢
       first
       | exact keep_frz h e
       | exact frz_alloc h e
       | (split at e <;> first
          | exact keep_frz h e
          | exact frz_box h e
          | exact frz_buildSlice h e
          | exact frz_makeSlice h e
          | exact frz_convert h e
          | (cases e; done)
          | (obtain ⟨rfl, rfl⟩ := Prod.mk.inj (Option.some.inj e); exact ⟨_, rfl, h⟩)))

/-- Calls that come out the same where less is frozen. -/
def FrzC (c : CallF) : Prop := ∀ f xs M m v m1, Frz M m → c f xs m = some (v, m1) → ∃ M1, c f xs M = some (v, M1) ∧ Frz M1 m1

theorem step_ev {c : CallF} {env : Env} {o : Op} (h : ∀ q, o ≠ .call q) : stepOp P c env o m = evOp P env o m := by
  cases o <;> first | rfl | exact (h _ rfl).elim
theorem frz_step {c : CallF} (hc : FrzC c) (h : Frz M m) {env : Env} {o : Op} {v : Value} (e : stepOp P c env o m = some (v, m1)) : ∃ M1, stepOp P c env o M = some (v, M1) ∧ Frz M1 m1 := by
  by_cases hq : ∃ q, o = .call q
  · obtain ⟨⟨callee, args, argTypes⟩, rfl⟩ := hq
    simp only [stepOp] at e ⊢
    cases hx : evs env args.toList with
    | none => rw [hx] at e; cases e
    | some xs =>
      rw [hx] at e
      dsimp only at e ⊢
      cases callee with
      | builtin b => exact frz_builtin h e
      | invoke r n => cases e
      | value f =>
        dsimp only at e ⊢
        split at e
        · split at e
          · rename_i h0
            rw [if_pos h0]
            exact hc _ _ _ _ _ _ h e
          · cases e
        · cases e
  · have hn : ∀ q, o ≠ .call q := fun q h => hq ⟨q, h⟩
    rw [step_ev hn] at e
    obtain ⟨M1, h1, h2⟩ := frz_evOp h e
    exact ⟨M1, by rw [step_ev hn]; exact h1, h2⟩

theorem frz_ops {c : CallF} (hc : FrzC c) {ops : Array Oper} : ∀ {l : List Nat} {env env1 : Env} {M m m1 : Mem}, Frz M m → runOps P c ops l env m = some (env1, m1) → ∃ M1, runOps P c ops l env M = some (env1, M1) ∧ Frz M1 m1
  | [], env, env1, M, m, m1, h, e => by
    obtain ⟨rfl, rfl⟩ := Prod.mk.inj (Option.some.inj e)
    exact ⟨M, rfl, h⟩
  | i :: l, env, env1, M, m, m1, h, e => by
    simp only [runOps] at e ⊢
    split at e
    · cases e
    · split at e
      · split at e
        · rename_i hs
          obtain ⟨M2, h1, h2⟩ := frz_step hc h hs
          simp only [h1]
          exact frz_ops hc h2 e
        · cases e
      · exact frz_ops hc h e
      · cases e

/-- Traces that tell the same, where less is frozen. -/
def TrF : Tr → Tr → Prop
  | [], [] => True
  | (e, M, x) :: r, (e', m, x') :: r' => e = e' ∧ x = x' ∧ Frz M m ∧ TrF r r'
  | _, _ => False
theorem TrF.get : ∀ {T t : Tr} {q : Nat}, TrF T t → (T[q]? = none ∧ t[q]? = none) ∨ ∃ e M m x, T[q]? = some (e, M, x) ∧ t[q]? = some (e, m, x) ∧ Frz M m
  | [], [], q, _ => .inl ⟨by simp, by simp⟩
  | (e, M, x) :: r, (e', m, x') :: r', 0, h => by
    obtain ⟨rfl, rfl, h, _⟩ := h
    exact .inr ⟨e, M, m, x, rfl, rfl, h⟩
  | (e, M, x) :: r, (e', m, x') :: r', q + 1, h => by
    simp only [List.getElem?_cons_succ]
    exact TrF.get h.2.2.2
  | [], _ :: _, _, h => h.elim
  | _ :: _, [], _, h => h.elim

theorem frz_trace {c : CallF} (hc : FrzC c) {ops : Array Oper} : ∀ {l : List Nat} {env env1 : Env} {M m m1 : Mem} {t : Tr}, Frz M m → traceOps P c ops l env m = some (t, env1, m1) → ∃ T M1, traceOps P c ops l env M = some (T, env1, M1) ∧ Frz M1 m1 ∧ TrF T t
  | [], env, env1, M, m, m1, t, h, e => by
    simp only [traceOps, Option.some.injEq, Prod.mk.injEq] at e
    obtain ⟨rfl, rfl, rfl⟩ := e
    exact ⟨[], M, rfl, h, trivial⟩
  | i :: l, env, env1, M, m, m1, t, h, e => by
    simp only [traceOps] at e ⊢
    split at e
    · cases e
    · split at e
      · split at e
        · rename_i hs
          obtain ⟨M2, h1, h2⟩ := frz_step hc h hs
          simp only [h1]
          split at e
          · rename_i ht
            obtain ⟨T, M3, h3, h4, h5⟩ := frz_trace hc h2 ht
            simp only [Option.some.injEq, Prod.mk.injEq] at e
            obtain ⟨rfl, rfl, rfl⟩ := e
            exact ⟨(_, M, _) :: T, M3, by rw [h3], h4, rfl, rfl, h, h5⟩
          · cases e
        · cases e
      · split at e
        · rename_i ht
          obtain ⟨T, M3, h3, h4, h5⟩ := frz_trace hc h ht
          simp only [Option.some.injEq, Prod.mk.injEq] at e
          obtain ⟨rfl, rfl, rfl⟩ := e
          exact ⟨(_, M, _) :: T, M3, by rw [h3], h4, rfl, rfl, h, h5⟩
        · cases e
      · cases e

theorem frz_writers {ops : Array Oper} {T t : Tr} (h : TrF T t) : writersOf ops T = writersOf ops t := by
  unfold writersOf
  refine List.filter_congr fun i _ => ?_
  rcases h.get (q := i) with ⟨h1, h2⟩ | ⟨e, M, m, x, h1, h2, _⟩ <;> rw [h1, h2]
  cases ops[i]? <;> cases x <;> rfl

theorem frz_steady {ops : Array Oper} {T t : Tr} {M1 m1 : Mem} (h : TrF T t) (hf : Frz M1 m1) (hs : steady P ops t m1 = true) : steady P ops T M1 = true := by
  unfold steady at hs ⊢
  rw [List.all_eq_true] at hs ⊢
  intro i hi
  have k := hs i hi
  rcases h.get (q := i) with ⟨h1, h2⟩ | ⟨e, M, m, x, h1, h2, _⟩
  · rw [h1]
    cases ops[i]? <;> rfl
  · rw [h2] at k
    rw [h1]
    cases ho : ops[i]? with
    | none => rfl
    | some o =>
      rw [ho] at k
      cases x with
      | none => rfl
      | some x =>
        simp only [Bool.or_eq_true, List.all_eq_true] at k ⊢
        rcases k with k | k
        · exact .inl k
        · right
          intro p hp
          rw [frz_writers h] at hp
          have k := k p hp
          rw [frz_writers h]
          rcases k with k | k
          · exact .inl k
          · right
            split at k
            · rename_i hv
              have hm : Frz (memAt T M1 p) (memAt t m1 p) := by
                unfold memAt
                rcases h.get (q := p) with ⟨h1, h2⟩ | ⟨e, M, m, x, h1, h2, h3⟩ <;> rw [h1, h2]
                · exact hf
                · exact h3
              obtain ⟨_, h5, _⟩ := frz_evOp hm hv
              rw [h5]
              exact k
            · cases k

theorem frz_region {c : CallF} (hc : FrzC c) {ops : Array Oper} {draw : Bool} {env env1 : Env} (h : Frz M m) (e : runRegion P c ops draw env m = some (env1, m1)) : ∃ M1, runRegion P c ops draw env M = some (env1, M1) ∧ Frz M1 m1 := by
  unfold runRegion at e ⊢
  split at e
  · exact frz_ops hc h e
  · split at e
    · rename_i hw
      rw [if_pos hw]
      exact frz_ops hc h e
    · rename_i hw
      rw [if_neg hw]
      split at e
      · rename_i ht
        obtain ⟨T, M3, h3, h4, h5⟩ := frz_trace hc h ht
        simp only [h3]
        split at e
        · rename_i hst
          obtain ⟨rfl, rfl⟩ := Prod.mk.inj (Option.some.inj e)
          exact ⟨M3, by rw [if_pos (frz_steady h5 h4 hst)], h4⟩
        · cases e
      · cases e

theorem frz_code {c : CallF} (hc : FrzC c) : ∀ (n : Nat) {x : Code} {ex : Ex} {env env1 : Env} {M m m1 : Mem}, Frz M m → runCode P c n x env m = some (ex, env1, m1) → ∃ M1, runCode P c n x env M = some (ex, env1, M1) ∧ Frz M1 m1
  | 0, _, _, _, _, _, _, _, _, e => by cases e
  | n + 1, x, ex, env, env1, M, m, m1, h, e => by
    have ih := fun {x : Code} {ex : Ex} {env env1 : Env} {M m m1 : Mem} => frz_code hc n (x := x) (ex := ex) (env := env) (env1 := env1) (M := M) (m := m) (m1 := m1)
    have same : ∀ {q : Ex × Env}, some (q.1, q.2, m) = some (ex, env1, m1) → ∃ M1, some (q.1, q.2, M) = some (ex, env1, M1) ∧ Frz M1 m1 := by
      intro q e
      simp only [Option.some.injEq, Prod.mk.injEq] at e
      obtain ⟨h1, h2, rfl⟩ := e
      exact ⟨M, by rw [h1, h2], h⟩
    cases x
    case skip => exact same (q := (_, _)) e
    case label => exact same (q := (_, _)) e
    case exit => exact same (q := (_, _)) e
    case ret => exact same (q := (_, _)) e
    case region id ops draw =>
      simp only [runCode] at e ⊢
      split at e
      · rename_i hr
        obtain ⟨M1, h1, h2⟩ := frz_region hc h hr
        simp only [Option.some.injEq, Prod.mk.injEq] at e
        obtain ⟨rfl, rfl, rfl⟩ := e
        exact ⟨M1, by rw [h1], h2⟩
      · cases e
    case seq a b =>
      simp only [runCode] at e ⊢
      split at e
      · rename_i h1
        obtain ⟨M1, h1, h2⟩ := ih h h1
        simp only [h1]
        exact ih h2 e
      · rename_i hne
        obtain ⟨M1, h1, h2⟩ := ih h e
        refine ⟨M1, ?_, h2⟩
        rw [h1]
        cases ex with
        | normal => exact (hne _ _ e).elim
        | exit i => rfl
        | ret => rfl
    case cond v a b =>
      simp only [runCode] at e ⊢
      split at e
      · exact ih h e
      · exact ih h e
      · cases e
    case block id b =>
      simp only [runCode] at e ⊢
      split at e
      · rename_i h1
        obtain ⟨M1, h1, h2⟩ := ih h h1
        simp only [h1]
        split at e
        · rename_i hi
          rw [if_pos hi]
          simp only [Option.some.injEq, Prod.mk.injEq] at e
          obtain ⟨rfl, rfl, rfl⟩ := e
          exact ⟨M1, rfl, h2⟩
        · rename_i hi
          rw [if_neg hi]
          simp only [Option.some.injEq, Prod.mk.injEq] at e
          obtain ⟨rfl, rfl, rfl⟩ := e
          exact ⟨M1, rfl, h2⟩
      · rename_i hne
        obtain ⟨M1, h1, h2⟩ := ih h e
        refine ⟨M1, ?_, h2⟩
        rw [h1]
        cases ex with
        | normal => rfl
        | exit i => exact (hne _ _ _ e).elim
        | ret => rfl
    case loop b =>
      simp only [runCode] at e ⊢
      split at e
      · rename_i h1
        obtain ⟨M1, h1, h2⟩ := ih h h1
        simp only [h1]
        exact ih h2 e
      · rename_i hne
        obtain ⟨M1, h1, h2⟩ := ih h e
        refine ⟨M1, ?_, h2⟩
        rw [h1]
        cases ex with
        | normal => exact (hne _ _ e).elim
        | exit i => rfl
        | ret => rfl
    case scope b =>
      simp only [runCode] at e ⊢
      exact ih h e
    all_goals (cases e)

theorem frz_res {env : Env} : ∀ {rs : List ResultVar} {l : List Value} {M m : Mem}, Frz M m → resOf P env m rs = some l → resOf P env M rs = some l
  | [], l, M, m, h, e => e
  | .tmp t :: r, l, M, m, h, e => by
    simp only [resOf] at e ⊢
    split at e
    · rename_i h1 h2
      rw [h1, frz_res h h2]
      exact e
    · cases e
  | .cell a t :: r, l, M, m, h, e => by
    simp only [resOf] at e ⊢
    split at e
    · cases e
    · split at e
      · rename_i h1 h2
        rw [frz_load h h1, frz_res h h2]
        exact e
      · cases e

theorem frz_call : ∀ n : Nat, FrzC (callF P n)
  | 0 => fun _ _ _ _ _ _ _ e => by cases e
  | n + 1 => fun f xs M m v m1 h e => by
    have ih := frz_call n
    simp only [callF] at e ⊢
    split at e
    · cases e
    · split at e
      · cases e
      · split at e
        · cases e
        · rename_i hn
          rw [if_neg hn]
          split at e
          · cases e
          · rename_i hne hrun
            obtain ⟨M1, h1, h2⟩ := frz_code ih n h hrun
            simp only [h1]
            split at e
            · rename_i hr
              obtain ⟨rfl, rfl⟩ := Prod.mk.inj (Option.some.inj e)
              rw [frz_res h2 hr]
              exact ⟨M1, rfl, h2⟩
            · cases e
          · cases e
end Go.AM
