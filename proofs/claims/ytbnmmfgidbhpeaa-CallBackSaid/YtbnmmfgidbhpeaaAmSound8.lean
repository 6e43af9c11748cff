/- How a run of the abstract machine leaves the memory's outline; what a step that writes nothing hangs on. -/
import Derived.Test.YtbnmmfgidbhpeaaAmSound7
set_option linter.unusedSimpArgs false
set_option linter.unusedVariables false
namespace Go.AM
open Go
variable {P : Program}

structure Grow (m m' : Mem) : Prop where
  next : m.next ≤ m'.next
  dom : ∀ i b, i < m.next → m'.get i = some b → ∃ b0, m.get i = some b0 ∧ (b.own = true → b0.own = true)
  fresh : (∀ i, m.next ≤ i → m.get i = none) → ∀ i, m'.next ≤ i → m'.get i = none

theorem Grow.refl (m : Mem) : Grow m m := ⟨Nat.le_refl _, fun _ b _ h => ⟨b, h, id⟩, id⟩

theorem Grow.trans {a b c : Mem} (h : Grow a b) (k : Grow b c) : Grow a c := by
  refine ⟨Nat.le_trans h.next k.next, fun i x hi hx => ?_, fun f => k.fresh (h.fresh f)⟩
  obtain ⟨y, hy, o1⟩ := k.dom i x (Nat.lt_of_lt_of_le hi h.next) hx
  obtain ⟨z, hz, o2⟩ := h.dom i y hi hy
  exact ⟨z, hz, fun q => o2 (o1 q)⟩

theorem Grow.new (m : Mem) (b : Blk) : Grow m (m.new b) := by
  refine ⟨Nat.le_succ _, fun i x hi hx => ⟨x, ?_, id⟩, fun f i hi => ?_⟩
  · simp only [Mem.new] at hx
    rwa [if_neg (by omega)] at hx
  · simp only [Mem.new] at hi ⊢
    rw [if_neg (by omega)]
    exact f i (by omega)

theorem Grow.kill (m : Mem) (j : Nat) : Grow m (m.kill j) := by
  refine ⟨Nat.le_refl _, fun i x hi hx => ⟨x, ?_, id⟩, fun f i hi => ?_⟩
  · simp only [Mem.kill] at hx
    split at hx
    · cases hx
    · exact hx
  · simp only [Mem.kill]
    split
    · rfl
    · exact f i hi

theorem Grow.set {m : Mem} {j : Nat} {b0 b : Blk} (h : m.get j = some b0) (ho : b.own = true → b0.own = true) : Grow m (m.set j b) := by
  refine ⟨Nat.le_refl _, fun i x hi hx => ?_, fun f i hi => ?_⟩
  · simp only [Mem.set] at hx
    split at hx
    · rename_i hij
      subst hij
      obtain rfl := Option.some.inj hx
      exact ⟨b0, h, ho⟩
    · exact ⟨x, hx, id⟩
  · simp only [Mem.set] at hi ⊢
    split
    · rename_i hij
      subst hij
      rw [f i hi] at h
      cases h
    · exact f i hi

theorem keep_mem {m m' : Mem} {v : Option Value} {x : Value} (h : keep m v = some (x, m')) : v = some x ∧ m' = m := by
  unfold keep at h
  split at h
  · obtain ⟨rfl, rfl⟩ := Prod.mk.inj (Option.some.inj h); exact ⟨rfl, rfl⟩
  · cases h

theorem keep_grow {m m' : Mem} {v : Option Value} {x : Value} (h : keep m v = some (x, m')) : Grow m m' := by
  rw [(keep_mem h).2]; exact Grow.refl m

theorem opStore_grow {t : TypeId} {a v : Value} {m m' : Mem} (e : opStore P t a v m = some m') : Grow m m' := by
  unfold opStore at e
  split at e
  · split at e
    · rename_i hg
      split at e
      · obtain rfl := Option.some.inj e; exact Grow.set hg id
      · cases e
    · cases e
  · cases e

theorem opAppend_grow {ts : List TypeId} {xs : List Value} {x : Value} {m m' : Mem} (e : opAppend P ts xs m = some (x, m')) : Grow m m' := by
  unfold opAppend at e
  repeat' split at e
  all_goals first
    | (cases e; done)
    | (obtain ⟨_, rfl⟩ := Prod.mk.inj (Option.some.inj e); first | exact Grow.refl _ | exact Grow.new _ _ | exact (Grow.kill _ _).trans (Grow.new _ _))

theorem opCopy_grow {ts : List TypeId} {xs : List Value} {x : Value} {m m' : Mem} (e : opCopy P ts xs m = some (x, m')) : Grow m m' := by
  unfold opCopy at e
  split at e
  · split at e
    · split at e
      · rename_i hg
        split at e
        · split at e
          · obtain ⟨_, rfl⟩ := Prod.mk.inj (Option.some.inj e); exact Grow.refl _
          · split at e
            · obtain ⟨_, rfl⟩ := Prod.mk.inj (Option.some.inj e); exact Grow.set hg id
            · cases e
        · cases e
      · cases e
    · cases e
  · cases e

theorem evBuiltin_grow {b : Builtin} {ts : List TypeId} {xs : List Value} {x : Value} {m m' : Mem} (e : evBuiltin P b ts xs m = some (x, m')) : Grow m m' := by
  unfold evBuiltin at e
  split at e
  · exact opAppend_grow e
  · split at e
    · obtain ⟨_, rfl⟩ := Prod.mk.inj (Option.some.inj e); exact Grow.refl _
    · cases e
  · split at e
    · obtain ⟨_, rfl⟩ := Prod.mk.inj (Option.some.inj e); exact Grow.refl _
    · cases e
  · split at e
    · obtain ⟨_, rfl⟩ := Prod.mk.inj (Option.some.inj e); exact Grow.refl _
    · cases e
  · exact opCopy_grow e
  · cases e

/-- What a step that writes nothing comes to, wherever it stands: the same value; at most one new block, under the next name. -/
inductive Idle (f : Mem → Option (Value × Mem)) (m : Mem) (x : Value) (m' : Mem) : Prop
  | same (h : m' = m) (k : ∀ m2, f m2 = some (x, m2)) : Idle f m x m'
  | new (b : Blk) (h : m' = m.new b) (k : ∀ m2 : Mem, m2.next = m.next → f m2 = some (x, m2.new b)) : Idle f m x m'

theorem Idle.of_keep {m m' : Mem} {x : Value} {v : Option Value} {f : Mem → Option (Value × Mem)} (hf : ∀ m2, f m2 = keep m2 v) (e : f m = some (x, m')) : Idle f m x m' := by
  rw [hf] at e
  obtain ⟨rfl, rfl⟩ := keep_mem e
  exact .same rfl fun m2 => by rw [hf]; rfl

theorem opAlloc_idle {t : TypeId} {m m' : Mem} {x : Value} (e : opAlloc P t m = some (x, m')) : Idle (opAlloc P t) m x m' := by
  have e0 := e
  unfold opAlloc at e
  split at e
  · cases e
  · split at e
    · obtain ⟨rfl, rfl⟩ := Prod.mk.inj (Option.some.inj e)
      exact .new _ rfl fun m2 h2 => by simp only [opAlloc, *, if_true]
    · cases e

theorem opBox_idle {t : TypeId} {v : Value} {m m' : Mem} {x : Value} (e : opBox t v m = some (x, m')) : Idle (opBox t v) m x m' := by
  unfold opBox at e
  split at e
  · obtain ⟨rfl, rfl⟩ := Prod.mk.inj (Option.some.inj e)
    exact .new _ rfl fun m2 h2 => by simp only [opBox, *, if_true]
  · cases e

theorem opBuildSlice_idle {t : TypeId} {len : Nat} {parts : List (Nat × Value)} {m m' : Mem} {x : Value} (e : opBuildSlice P t len parts m = some (x, m')) :
    Idle (opBuildSlice P t len parts) m x m' := by
  unfold opBuildSlice at e
  split at e
  · split at e
    · split at e
      · rename_i hc
        split at e
        · cases e
        · obtain ⟨rfl, rfl⟩ := Prod.mk.inj (Option.some.inj e)
          refine .new _ rfl fun m2 h2 => ?_
          obtain ⟨c1, c2, c3, c4⟩ := hc
          simp [opBuildSlice, *]
          all_goals omega
      · cases e
    · cases e
  · cases e

theorem opMakeSlice_idle {t : TypeId} {l c : Value} {m m' : Mem} {x : Value} (e : opMakeSlice P t l c m = some (x, m')) : Idle (opMakeSlice P t l c) m x m' := by
  unfold opMakeSlice at e
  split at e
  · rename_i el k n k' n' hu
    split at e
    · rename_i s z b hs hz hb
      split at e
      · rename_i hc
        obtain ⟨rfl, rfl⟩ := Prod.mk.inj (Option.some.inj e)
        refine .new _ rfl fun m2 h2 => ?_
        simp only [opMakeSlice, hu, hs, hz, hb]
        rw [if_pos hc, h2]
      · cases e
    · cases e
  · cases e

theorem opConvert_idle {src dst : TypeId} {v : Value} {m m' : Mem} {x : Value} (hn : ∀ e, P.underlying src ≠ some (.slice e)) (e : opConvert P src dst v m = some (x, m')) : Idle (opConvert P src dst v) m x m' := by
  unfold opConvert at e
  split at e
  · obtain ⟨rfl, rfl⟩ := Prod.mk.inj (Option.some.inj e)
    exact .same rfl fun m2 => by simp only [opConvert, *]
  · obtain ⟨rfl, rfl⟩ := Prod.mk.inj (Option.some.inj e)
    exact .same rfl fun m2 => by simp only [opConvert, *]
  · split at e
    · split at e
      · rename_i hc
        obtain ⟨rfl, rfl⟩ := Prod.mk.inj (Option.some.inj e)
        refine .new _ rfl fun m2 h2 => ?_
        obtain ⟨c1, c2⟩ := hc
        simp [opConvert, *]
      · cases e
    · cases e
  · rename_i hs _
    exact absurd hs (hn _)
  · rename_i hs _
    exact absurd hs (hn _)
  · cases e

theorem opConvert_grow {src dst : TypeId} {v : Value} {m m' : Mem} {x : Value} (e : opConvert P src dst v m = some (x, m')) : Grow m m' := by
  unfold opConvert at e
  repeat' split at e
  all_goals first
    | (cases e; done)
    | (obtain ⟨_, rfl⟩ := Prod.mk.inj (Option.some.inj e); first | exact Grow.refl _ | exact Grow.new _ _)

theorem Idle.grow {f : Mem → Option (Value × Mem)} {m m' : Mem} {x : Value} (h : Idle f m x m') : Grow m m' := by
  cases h with
  | same h _ => rw [h]; exact Grow.refl _
  | new b h _ => rw [h]; exact Grow.new _ _

theorem evOp_grow {env : Env} {o : Op} {x : Value} {m m' : Mem} (e : evOp P env o m = some (x, m')) : Grow m m' := by
  unfold evOp at e
  split at e
  case h_4 => exact (opAlloc_idle e).grow
  all_goals (repeat' split at e)
  all_goals first
    | (cases e; done)
    | exact keep_grow e
    | exact (opBox_idle e).grow
    | exact (opBuildSlice_idle e).grow
    | exact (opMakeSlice_idle e).grow
    | exact opConvert_grow e
    | (obtain ⟨_, rfl⟩ := Prod.mk.inj (Option.some.inj e); first | exact Grow.refl _ | exact opStore_grow (by assumption))

theorem Idle.congr {f g : Mem → Option (Value × Mem)} {m m' : Mem} {x : Value} (h : ∀ m2, f m2 = g m2) (k : Idle g m x m') : Idle f m x m' := by
  cases k with
  | same a b => exact .same a fun m2 => (h m2).trans (b m2)
  | new b a c => exact .new b a fun m2 h2 => (h m2).trans (c m2 h2)

/-- A step that reads no memory and writes none. -/
theorem evOp_idle {env : Env} {o : Op} {x : Value} {m m' : Mem} (hw : writes o = false) (hr : readsMemP P o = false) (e : evOp P env o m = some (x, m')) : Idle (evOp P env o) m x m' := by
  cases o
  case move y => exact Idle.of_keep (v := ev1 env y) (fun _ => rfl) e
  case assign y => exact Idle.of_keep (v := ev1 env y) (fun _ => rfl) e
  case pick c a b =>
    exact Idle.of_keep (v := match ev1 env c with | some (.bool true) => ev1 env a | some (.bool false) => ev1 env b | _ => none)
      (fun m2 => by simp only [evOp]; split <;> simp_all [keep]) e
  case alloc t => exact opAlloc_idle e
  case load => cases hr
  case store => cases hw
  case build t parts =>
    exact Idle.of_keep (v := match evParts env parts.toList with | some vs => opBuild P t vs | none => none) (fun m2 => by simp only [evOp]; split <;> simp_all [keep]) e
  case nilCheck y =>
    exact Idle.of_keep (v := match ev1 env y with | some (.pointer (some p)) => some (.pointer (some p)) | some (.func (.func f) a b) => some (.func (.func f) a b) | _ => none)
      (fun m2 => by simp only [evOp]; split <;> simp_all [keep]) e
  case binOp op t y z ty =>
    exact Idle.of_keep (v := match ev1 env y, ev1 env z with | some a, some b => binV P op t a b | _, _ => none) (fun m2 => by simp only [evOp]; split <;> simp_all [keep]) e
  case unOp op t y =>
    exact Idle.of_keep (v := match ev1 env y with | some a => unV op a | none => none) (fun m2 => by simp only [evOp]; split <;> simp_all [keep]) e
  case slice t y lo hi mx =>
    cases mx with
    | some q => cases e
    | none =>
      refine Idle.of_keep (v := match ev1 env y, evOpt env lo, evOpt env hi with | some a, some l, some h => opSlice P t a l h | _, _, _ => none) (fun m2 => ?_) e
      simp only [evOp]
      split <;> simp_all [keep]
  case fieldAddr t y f =>
    exact Idle.of_keep (v := match ev1 env y with | some a => opFieldAddr P t a f | none => none) (fun m2 => by simp only [evOp]; split <;> simp_all [keep]) e
  case field t y f =>
    exact Idle.of_keep (v := match ev1 env y with | some a => opField P t a f | none => none) (fun m2 => by simp only [evOp]; split <;> simp_all [keep]) e
  case indexAddr t y z =>
    exact Idle.of_keep (v := match ev1 env y, ev1 env z with | some a, some b => opIndexAddr P t a b | _, _ => none) (fun m2 => by simp only [evOp]; split <;> simp_all [keep]) e
  case index t y z =>
    exact Idle.of_keep (v := match ev1 env y, ev1 env z with | some a, some b => opIndex P t a b | _, _ => none) (fun m2 => by simp only [evOp]; split <;> simp_all [keep]) e
  case extract y i =>
    exact Idle.of_keep (v := match ev1 env y with | some (.tuple vs) => vs[i]? | _ => none) (fun m2 => by simp only [evOp]; split <;> simp_all [keep]) e
  case makeFunc fn first captured =>
    cases fn with
    | func f =>
      refine Idle.of_keep (v := if first.size = 0 then match evs env captured.toList with | some vs => some (.func (.func f) #[] vs.toArray) | none => none else none) (fun m2 => ?_) e
      simp only [evOp]
      split
      · split <;> simp_all [keep]
      · simp_all [keep]
    | _ => cases e
  case convert src dst y =>
    have hn : ∀ e, P.underlying src ≠ some (.slice e) := fun el h => by simp [readsMemP, h] at hr
    cases hy : ev1 env y with
    | none => simp only [evOp, hy] at e; cases e
    | some v => simp only [evOp, hy] at e; exact (opConvert_idle hn e).congr fun m2 => by simp only [evOp, hy]
  case box t y =>
    cases hy : ev1 env y with
    | none => simp only [evOp, hy] at e; cases e
    | some v => simp only [evOp, hy] at e; exact (opBox_idle e).congr fun m2 => by simp only [evOp, hy]
  case buildSlice t len parts =>
    cases hy : evParts env parts.toList with
    | none => simp only [evOp, hy] at e; cases e
    | some v => simp only [evOp, hy] at e; exact (opBuildSlice_idle e).congr fun m2 => by simp only [evOp, hy]
  case makeSlice t l c =>
    cases hy : ev1 env l with
    | none => simp only [evOp, hy] at e; cases e
    | some v =>
      cases hz : ev1 env c with
      | none => simp only [evOp, hy, hz] at e; cases e
      | some u => simp only [evOp, hy, hz] at e; exact (opMakeSlice_idle e).congr fun m2 => by simp only [evOp, hy, hz]
  all_goals (cases e)

/-- A step that reads leaves the memory. -/
theorem evOp_reads {env : Env} {o : Op} {x : Value} {m m' : Mem} (hr : readsMemP P o = true) (e : evOp P env o m = some (x, m')) : m' = m := by
  cases o <;> first | (cases hr; done) | skip
  case load t a =>
    simp only [evOp] at e
    split at e
    · exact (keep_mem e).2
    · cases e
  case convert src dst y =>
    simp only [readsMemP] at hr
    split at hr
    · rename_i el hs
      simp only [evOp] at e
      split at e
      · unfold opConvert at e
        rw [hs] at e
        repeat' split at e
        all_goals first
          | (cases e; done)
          | (obtain ⟨_, rfl⟩ := Prod.mk.inj (Option.some.inj e); rfl)
          | (rename_i hx _; cases hx; done)
          | simp_all
      · cases e
    · cases hr
end Go.AM
