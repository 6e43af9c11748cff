/- What is frozen stays frozen, whatever runs. -/
import Derived.Test.YtimjcfaciiimmaaAmWalk
set_option linter.unusedSimpArgs false
set_option linter.unusedVariables false
namespace Go.AM
open Go
variable {P : Program} {M m m1 m2 m3 : Mem}

/-- Frozen blocks stay; the memory doesn't shrink. -/
def Pz (m m' : Mem) : Prop := m.next ≤ m'.next ∧ ∀ i cs e, i < m.next → m.get i = some (.cells cs e false) → m'.get i = some (.cells cs e false)
theorem Pz.refl (m : Mem) : Pz m m := ⟨Nat.le_refl _, fun _ _ _ _ h => h⟩
theorem Pz.trans (h : Pz m1 m2) (k : Pz m2 m3) : Pz m1 m3 := ⟨Nat.le_trans h.1 k.1, fun i cs e hi g => k.2 i cs e (Nat.lt_of_lt_of_le hi h.1) (h.2 i cs e hi g)⟩
theorem Pz.new (m : Mem) (b : Blk) : Pz m (m.new b) := ⟨Nat.le_succ _, fun i cs e hi g => by
  simp only [Mem.new]
  rw [if_neg (by omega)]
  exact g⟩
theorem Pz.set {i : Nat} {cs : List Value} {e : TypeId} (g : m.get i = some (.cells cs e true)) (b : Blk) : Pz m (m.set i b) := ⟨Nat.le_refl _, fun j ds f hj h => by
  simp only [Mem.set]
  split
  · rename_i he
    rw [he, g] at h
    cases h
  · exact h⟩
theorem Pz.mset {i : Nat} {es : List (Value × Value)} (g : m.get i = some (.map es)) (b : Blk) : Pz m (m.set i b) := ⟨Nat.le_refl _, fun j ds f hj h => by
  simp only [Mem.set]
  split
  · rename_i he
    rw [he, g] at h
    cases h
  · exact h⟩
theorem Pz.kill {i : Nat} {cs : List Value} {e : TypeId} (g : m.get i = some (.cells cs e true)) : Pz m (m.kill i) := ⟨Nat.le_refl _, fun j ds f hj h => by
  simp only [Mem.kill]
  split
  · rename_i he
    rw [he, g] at h
    cases h
  · exact h⟩
theorem Frz.pz (h : Frz m m1) : Pz m m1 := ⟨Nat.le_of_eq h.1.symm, fun i cs e hi g => by
  rcases h.2 i with k | ⟨ds, f, k1, k2⟩
  · rw [k, g]
  · rw [g] at k1; cases k1⟩

/-- What one operation does to the memory. -/
inductive MSt (m : Mem) : Mem → Prop where
  | same : MSt m m
  | new (b : Blk) : MSt m (m.new b)
  | set (i : Nat) (cs : List Value) (e : TypeId) (b : Blk) : m.get i = some (.cells cs e true) → MSt m (m.set i b)
  | mset (i : Nat) (es : List (Value × Value)) (b : Blk) : m.get i = some (.map es) → MSt m (m.set i b)
  | app (i : Nat) (cs : List Value) (e : TypeId) (b : Blk) : m.get i = some (.cells cs e true) → MSt m ((m.kill i).new b)
theorem MSt.pz (h : MSt m m1) : Pz m m1 := by
  cases h with
  | same => exact Pz.refl m
  | new b => exact Pz.new m b
  | set i cs e b g => exact Pz.set g b
  | mset i es b g => exact Pz.mset g b
  | app i cs e b g => exact (Pz.kill g).trans (Pz.new _ b)

theorem st_append {ts : List TypeId} {xs : List Value} {v : Value} (e : opAppend P ts xs m = some (v, m1)) : MSt m m1 := by
  unfold opAppend at e
  split at e
  · split at e
    · split at e
      · split at e
        · split at e
          · split at e
            · obtain ⟨rfl, rfl⟩ := Prod.mk.inj (Option.some.inj e)
              exact .same
            · split at e
              · split at e
                · obtain ⟨rfl, rfl⟩ := Prod.mk.inj (Option.some.inj e)
                  exact .new _
                · split at e
                  · rename_i hg
                    split at e
                    · obtain ⟨rfl, rfl⟩ := Prod.mk.inj (Option.some.inj e)
                      exact .app _ _ _ _ hg
                    · cases e
                  · cases e
                · cases e
              · cases e
          · cases e
        · cases e
      · cases e
    · cases e
  · cases e

theorem st_copy {ts : List TypeId} {xs : List Value} {v : Value} (e : opCopy P ts xs m = some (v, m1)) : MSt m m1 := by
  unfold opCopy at e
  split at e
  · split at e
    · split at e
      · rename_i hg
        split at e
        · split at e
          · obtain ⟨rfl, rfl⟩ := Prod.mk.inj (Option.some.inj e)
            exact .same
          · split at e
            · obtain ⟨rfl, rfl⟩ := Prod.mk.inj (Option.some.inj e)
              exact .set _ _ _ _ hg
            · cases e
        · cases e
      · cases e
    · cases e
  · cases e

theorem st_update {t : TypeId} {a k v : Value} (e : opMapUpdate P t a k v m = some m1) : MSt m m1 := by
  unfold opMapUpdate at e
  split at e
  · split at e
    · rename_i hg
      repeat' split at e
      all_goals first
        | (cases e; done)
        | (obtain rfl := Option.some.inj e; exact .mset _ _ _ hg)
    · cases e
  · cases e
theorem st_delete {ts : List TypeId} {xs : List Value} {v : Value} (e : opDelete P ts xs m = some (v, m1)) : MSt m m1 := by
  unfold opDelete at e
  split at e
  · split at e
    · split at e
      · rename_i hg
        repeat' split at e
        all_goals first
          | (cases e; done)
          | (obtain ⟨rfl, rfl⟩ := Prod.mk.inj (Option.some.inj e); exact .mset _ _ _ hg)
      · cases e
    · cases e
  · cases e
theorem st_keep {o : Option Value} {v : Value} (e : keep m o = some (v, m1)) : MSt m m1 := by
  unfold keep at e
  split at e
  · obtain ⟨rfl, rfl⟩ := Prod.mk.inj (Option.some.inj e); exact .same
  · cases e

theorem st_builtin {b : Builtin} {ts : List TypeId} {xs : List Value} {v : Value} (e : evBuiltin P b ts xs m = some (v, m1)) : MSt m m1 := by
  unfold evBuiltin at e
  split at e
  · exact st_append e
  · split at e
    · obtain ⟨rfl, rfl⟩ := Prod.mk.inj (Option.some.inj e); exact .same
    · exact st_keep e
  · split at e
    · obtain ⟨rfl, rfl⟩ := Prod.mk.inj (Option.some.inj e); exact .same
    · cases e
  · split at e
    · obtain ⟨rfl, rfl⟩ := Prod.mk.inj (Option.some.inj e); exact .same
    · cases e
  · exact st_copy e
  · exact st_delete e
  · cases e

theorem st_alloc {t : TypeId} {v : Value} (e : opAlloc P t m = some (v, m1)) : MSt m m1 := by
  unfold opAlloc at e
  split at e
  · cases e
  · split at e
    · obtain ⟨rfl, rfl⟩ := Prod.mk.inj (Option.some.inj e); exact .new _
    · cases e
theorem st_box {t : TypeId} {x v : Value} (e : opBox t x m = some (v, m1)) : MSt m m1 := by
  unfold opBox at e
  split at e
  · obtain ⟨rfl, rfl⟩ := Prod.mk.inj (Option.some.inj e); exact .new _
  · cases e
theorem st_buildSlice {t : TypeId} {len : Nat} {parts : List (Nat × Value)} {v : Value} (e : opBuildSlice P t len parts m = some (v, m1)) : MSt m m1 := by
  unfold opBuildSlice at e
  split at e
  · split at e
    · split at e
      · split at e
        · cases e
        · obtain ⟨rfl, rfl⟩ := Prod.mk.inj (Option.some.inj e); exact .new _
      · cases e
    · cases e
  · cases e
theorem st_makeSlice {t : TypeId} {l c v : Value} (e : opMakeSlice P t l c m = some (v, m1)) : MSt m m1 := by
  unfold opMakeSlice at e
  split at e
  · split at e
    · split at e
      · obtain ⟨rfl, rfl⟩ := Prod.mk.inj (Option.some.inj e); exact .new _
      · cases e
    · cases e
  · cases e
theorem st_convert {s d : TypeId} {x v : Value} (e : opConvert P s d x m = some (v, m1)) : MSt m m1 := by
  unfold opConvert at e
  split at e
  · obtain ⟨rfl, rfl⟩ := Prod.mk.inj (Option.some.inj e); exact .same
  · obtain ⟨rfl, rfl⟩ := Prod.mk.inj (Option.some.inj e); exact .same
  · split at e
    · split at e
      · obtain ⟨rfl, rfl⟩ := Prod.mk.inj (Option.some.inj e); exact .new _
      · cases e
    · cases e
  · split at e
    · split at e
      · obtain ⟨rfl, rfl⟩ := Prod.mk.inj (Option.some.inj e); exact .same
      · cases e
    · cases e
  · split at e
    · split at e
      · split at e
        · obtain ⟨rfl, rfl⟩ := Prod.mk.inj (Option.some.inj e); exact .same
        · cases e
      · cases e
    · cases e
  · cases e
theorem st_store {t : TypeId} {a v : Value} (e : opStore P t a v m = some m1) : MSt m m1 := by
  unfold opStore at e
  split at e
  · split at e
    · rename_i hg
      split at e
      · obtain rfl := Option.some.inj e
        exact .set _ _ _ _ hg
      · cases e
    · cases e
  · cases e

theorem st_evOp {env : Env} {o : Op} {v : Value} (e : evOp P env o m = some (v, m1)) : MSt m m1 := by
  cases o
  case store t a x =>
    simp only [evOp] at e
    split at e
    · split at e
      · rename_i hs
        obtain ⟨rfl, rfl⟩ := Prod.mk.inj (Option.some.inj e)
        exact st_store hs
      · cases e
    · cases e
  case makeMap t r =>
    cases r with
    | some r => cases e
    | none =>
      obtain ⟨rfl, rfl⟩ := Prod.mk.inj (Option.some.inj e)
      exact .new _
  case mapUpdate t a k x =>
    simp only [evOp] at e
    split at e
    · split at e
      · rename_i hs
        obtain ⟨rfl, rfl⟩ := Prod.mk.inj (Option.some.inj e)
        exact st_update hs
      · cases e
    · cases e
  case call c =>
    obtain ⟨callee, args, ts⟩ := c
    cases callee with
    | builtin b =>
      cases b
      case len =>
        simp only [evOp] at e
        split at e
        · exact st_keep e
        · cases e
      all_goals cases e
    | value f => cases e
    | invoke r n => cases e
  case slice t x lo hi mx =>
    cases mx with
    | some q => cases e
    | none =>
      simp only [evOp] at e
      split at e
      · exact st_keep e
      · cases e
  case makeFunc f first cap =>
    cases f
    case func g =>
      simp only [evOp] at e
      split at e
      · split at e
        · obtain ⟨rfl, rfl⟩ := Prod.mk.inj (Option.some.inj e); exact .same
        · cases e
      · cases e
    all_goals (cases e)
  all_goals first
    | (cases e; done)
    | (simp only [evOp] at e
       first
       | exact st_keep e
       | exact st_alloc e
       | (split at e <;> first
          | exact st_keep e
          | exact st_box e
          | exact st_buildSlice e
          | exact st_makeSlice e
          | exact st_convert e
          | (cases e; done)
          | (obtain ⟨rfl, rfl⟩ := Prod.mk.inj (Option.some.inj e); exact .same)))

def PzC (c : CallF) : Prop := ∀ f xs m v m1, c f xs m = some (v, m1) → Pz m m1
theorem pz_step {c : CallF} (hc : PzC c) {env : Env} {o : Op} {v : Value} (e : stepOp P c env o m = some (v, m1)) : Pz m m1 := by
  by_cases hq : ∃ q, o = .call q
  · obtain ⟨⟨callee, args, argTypes⟩, rfl⟩ := hq
    simp only [stepOp] at e
    cases hx : evs env args.toList with
    | none => rw [hx] at e; cases e
    | some xs =>
      rw [hx] at e
      dsimp only at e
      cases callee with
      | builtin b => exact (st_builtin e).pz
      | invoke r n => cases e
      | value f =>
        dsimp only at e
        split at e
        · split at e
          · exact hc _ _ _ _ _ e
          · cases e
        · cases e
  · have hn : ∀ q, o ≠ .call q := fun q h => hq ⟨q, h⟩
    rw [step_ev hn] at e
    exact (st_evOp e).pz
theorem pz_ops {c : CallF} (hc : PzC c) {ops : Array Oper} : ∀ {l : List Nat} {env env1 : Env} {m m1 : Mem}, runOps P c ops l env m = some (env1, m1) → Pz m m1
  | [], env, env1, m, m1, e => by
    obtain ⟨rfl, rfl⟩ := Prod.mk.inj (Option.some.inj e)
    exact Pz.refl _
  | i :: l, env, env1, m, m1, e => by
    simp only [runOps] at e
    split at e
    · cases e
    · split at e
      · split at e
        · rename_i hs
          exact (pz_step hc hs).trans (pz_ops hc e)
        · cases e
      · exact pz_ops hc e
      · cases e
theorem pz_region {c : CallF} (hc : PzC c) {ops : Array Oper} {draw : Bool} {env env1 : Env} (e : runRegion P c ops draw env m = some (env1, m1)) : Pz m m1 := by
  unfold runRegion at e
  split at e
  · exact pz_ops hc e
  · split at e
    · exact pz_ops hc e
    · split at e
      · rename_i ht
        split at e
        · obtain ⟨rfl, rfl⟩ := Prod.mk.inj (Option.some.inj e)
          exact pz_ops hc (runOps_of_trace ht)
        · cases e
      · cases e
theorem pz_code {c : CallF} (hc : PzC c) : ∀ (n : Nat) {x : Code} {ex : Ex} {env env1 : Env} {m m1 : Mem}, runCode P c n x env m = some (ex, env1, m1) → Pz m m1
  | 0, _, _, _, _, _, _, e => by cases e
  | n + 1, x, ex, env, env1, m, m1, e => by
    have ih := fun {x : Code} {ex : Ex} {env env1 : Env} {m m1 : Mem} => pz_code hc n (x := x) (ex := ex) (env := env) (env1 := env1) (m := m) (m1 := m1)
    cases x
    case region id ops draw =>
      simp only [runCode] at e
      split at e
      · rename_i hr
        simp only [Option.some.injEq, Prod.mk.injEq] at e
        obtain ⟨rfl, rfl, rfl⟩ := e
        exact pz_region hc hr
      · cases e
    case seq a b =>
      simp only [runCode] at e
      split at e
      · rename_i h1
        exact (ih h1).trans (ih e)
      · exact ih e
    case cond v a b =>
      simp only [runCode] at e
      split at e
      · exact ih e
      · exact ih e
      · cases e
    case block id b =>
      simp only [runCode] at e
      split at e
      · rename_i h1
        split at e
        all_goals
          simp only [Option.some.injEq, Prod.mk.injEq] at e
          obtain ⟨rfl, rfl, rfl⟩ := e
          exact ih h1
      · exact ih e
    case loop b =>
      simp only [runCode] at e
      split at e
      · rename_i h1
        exact (ih h1).trans (ih e)
      · exact ih e
    case scope b =>
      simp only [runCode] at e
      exact ih e
    all_goals first
      | (cases e; done)
      | (simp only [runCode, Option.some.injEq, Prod.mk.injEq] at e
         obtain ⟨_, _, rfl⟩ := e
         exact Pz.refl _)
theorem pz_call : ∀ n : Nat, PzC (callF P n)
  | 0 => fun _ _ _ _ _ e => by cases e
  | n + 1 => fun f xs m v m1 e => by
    have ih := pz_call n
    simp only [callF] at e
    split at e
    · cases e
    · split at e
      · cases e
      · split at e
        · cases e
        · split at e
          · cases e
          · rename_i hne hrun
            split at e
            · obtain ⟨rfl, rfl⟩ := Prod.mk.inj (Option.some.inj e)
              exact pz_code ih n hrun
            · cases e
          · cases e
/-- What is frozen stays, whatever is called. -/
theorem Ret.pz {f : FuncId} {xs : List Value} {m : Mem} {K : Value → Mem → Prop} (h : Ret P f xs m fun v m' => Pz m m' → K v m') : Ret P f xs m K := by
  obtain ⟨n, v, M, m', e, z, k⟩ := h
  exact ⟨n, v, M, m', e, z, k ((pz_call n _ _ _ _ _ e).trans z.pz)⟩
end Go.AM
