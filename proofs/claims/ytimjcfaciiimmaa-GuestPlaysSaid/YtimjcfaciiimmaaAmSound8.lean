/- How a run of the abstract machine leaves the memory's outline; what a step that writes nothing hangs on. -/
import Derived.Test.YtimjcfaciiimmaaAmSound1
set_option linter.unusedSimpArgs false
set_option linter.unusedVariables false
namespace Go.AM
open Go
variable {P : Program}

structure Grow (m m' : Mem) : Prop where
  next : m.next ≤ m'.next
  dom : ∀ i b, i < m.next → m'.get i = some b → ∃ b0, m.get i = some b0 ∧ (b.own = true → b0.own = true)
  fresh : (∀ i, m.next ≤ i → m.get i = none) → ∀ i, m'.next ≤ i → m'.get i = none

theorem Grow.refl (m : Mem) : Grow m m := ⟨Nat.le_refl _, fun _ b _ h => ⟨b, h, id⟩, id⟩

theorem Grow.trans {a b c : Mem} (h : Grow a b) (k : Grow b c) : Grow a c := by
  refine ⟨Nat.le_trans h.next k.next, fun i x hi hx => ?_, fun f => k.fresh (h.fresh f)⟩
  obtain ⟨y, hy, o1⟩ := k.dom i x (Nat.lt_of_lt_of_le hi h.next) hx
  obtain ⟨z, hz, o2⟩ := h.dom i y hi hy
  exact ⟨z, hz, fun q => o2 (o1 q)⟩

theorem Grow.new (m : Mem) (b : Blk) : Grow m (m.new b) := by
  refine ⟨Nat.le_succ _, fun i x hi hx => ⟨x, ?_, id⟩, fun f i hi => ?_⟩
  · simp only [Mem.new] at hx
    rwa [if_neg (by omega)] at hx
  · simp only [Mem.new] at hi ⊢
    rw [if_neg (by omega)]
    exact f i (by omega)

theorem Grow.kill (m : Mem) (j : Nat) : Grow m (m.kill j) := by
  refine ⟨Nat.le_refl _, fun i x hi hx => ⟨x, ?_, id⟩, fun f i hi => ?_⟩
  · simp only [Mem.kill] at hx
    split at hx
    · cases hx
    · exact hx
  · simp only [Mem.kill]
    split
    · rfl
    · exact f i hi

theorem Grow.set {m : Mem} {j : Nat} {b0 b : Blk} (h : m.get j = some b0) (ho : b.own = true → b0.own = true) : Grow m (m.set j b) := by
  refine ⟨Nat.le_refl _, fun i x hi hx => ?_, fun f i hi => ?_⟩
  · simp only [Mem.set] at hx
    split at hx
    · rename_i hij
      subst hij
      obtain rfl := Option.some.inj hx
      exact ⟨b0, h, ho⟩
    · exact ⟨x, hx, id⟩
  · simp only [Mem.set] at hi ⊢
    split
    · rename_i hij
      subst hij
      rw [f i hi] at h
      cases h
    · exact f i hi

theorem keep_mem {m m' : Mem} {v : Option Value} {x : Value} (h : keep m v = some (x, m')) : v = some x ∧ m' = m := by
  unfold keep at h
  split at h
  · obtain ⟨rfl, rfl⟩ := Prod.mk.inj (Option.some.inj h); exact ⟨rfl, rfl⟩
  · cases h

theorem keep_grow {m m' : Mem} {v : Option Value} {x : Value} (h : keep m v = some (x, m')) : Grow m m' := by
  rw [(keep_mem h).2]; exact Grow.refl m

theorem opStore_grow {t : TypeId} {a v : Value} {m m' : Mem} (e : opStore P t a v m = some m') : Grow m m' := by
  unfold opStore at e
  split at e
  · split at e
    · rename_i hg
      split at e
      · obtain rfl := Option.some.inj e; exact Grow.set hg id
      · cases e
    · cases e
  · cases e

theorem opAppend_grow {ts : List TypeId} {xs : List Value} {x : Value} {m m' : Mem} (e : opAppend P ts xs m = some (x, m')) : Grow m m' := by
  unfold opAppend at e
  repeat' split at e
  all_goals first
    | (cases e; done)
    | (obtain ⟨_, rfl⟩ := Prod.mk.inj (Option.some.inj e); first | exact Grow.refl _ | exact Grow.new _ _ | exact (Grow.kill _ _).trans (Grow.new _ _))

theorem opCopy_grow {ts : List TypeId} {xs : List Value} {x : Value} {m m' : Mem} (e : opCopy P ts xs m = some (x, m')) : Grow m m' := by
  unfold opCopy at e
  split at e
  · split at e
    · split at e
      · rename_i hg
        split at e
        · split at e
          · obtain ⟨_, rfl⟩ := Prod.mk.inj (Option.some.inj e); exact Grow.refl _
          · split at e
            · obtain ⟨_, rfl⟩ := Prod.mk.inj (Option.some.inj e); exact Grow.set hg id
            · cases e
        · cases e
      · cases e
    · cases e
  · cases e

theorem opMapUpdate_grow {t : TypeId} {a k v : Value} {m m' : Mem} (e : opMapUpdate P t a k v m = some m') : Grow m m' := by
  unfold opMapUpdate at e
  split at e
  · split at e
    · rename_i hg
      repeat' split at e
      all_goals first
        | (cases e; done)
        | (obtain rfl := Option.some.inj e; exact Grow.set hg fun _ => rfl)
    · cases e
  · cases e

theorem opDelete_grow {ts : List TypeId} {xs : List Value} {x : Value} {m m' : Mem} (e : opDelete P ts xs m = some (x, m')) : Grow m m' := by
  unfold opDelete at e
  split at e
  · split at e
    · split at e
      · rename_i hg
        repeat' split at e
        all_goals first
          | (cases e; done)
          | (obtain ⟨_, rfl⟩ := Prod.mk.inj (Option.some.inj e); exact Grow.set hg fun _ => rfl)
      · cases e
    · cases e
  · cases e

theorem evBuiltin_grow {b : Builtin} {ts : List TypeId} {xs : List Value} {x : Value} {m m' : Mem} (e : evBuiltin P b ts xs m = some (x, m')) : Grow m m' := by
  unfold evBuiltin at e
  split at e
  · exact opAppend_grow e
  · split at e
    · obtain ⟨_, rfl⟩ := Prod.mk.inj (Option.some.inj e); exact Grow.refl _
    · exact keep_grow e
  · split at e
    · obtain ⟨_, rfl⟩ := Prod.mk.inj (Option.some.inj e); exact Grow.refl _
    · cases e
  · split at e
    · obtain ⟨_, rfl⟩ := Prod.mk.inj (Option.some.inj e); exact Grow.refl _
    · cases e
  · exact opCopy_grow e
  · exact opDelete_grow e
  · cases e

/-- What a step that writes nothing comes to, wherever it stands: the same value; at most one new block, under the next name. -/
inductive Idle (f : Mem → Option (Value × Mem)) (m : Mem) (x : Value) (m' : Mem) : Prop
  | same (h : m' = m) (k : ∀ m2, f m2 = some (x, m2)) : Idle f m x m'
  | new (b : Blk) (h : m' = m.new b) (k : ∀ m2 : Mem, m2.next = m.next → f m2 = some (x, m2.new b)) : Idle f m x m'

theorem Idle.of_keep {m m' : Mem} {x : Value} {v : Option Value} {f : Mem → Option (Value × Mem)} (hf : ∀ m2, f m2 = keep m2 v) (e : f m = some (x, m')) : Idle f m x m' := by
  rw [hf] at e
  obtain ⟨rfl, rfl⟩ := keep_mem e
  exact .same rfl fun m2 => by rw [hf]; rfl

theorem opAlloc_idle {t : TypeId} {m m' : Mem} {x : Value} (e : opAlloc P t m = some (x, m')) : Idle (opAlloc P t) m x m' := by
  have e0 := e
  unfold opAlloc at e
  split at e
  · cases e
  · split at e
    · obtain ⟨rfl, rfl⟩ := Prod.mk.inj (Option.some.inj e)
      exact .new _ rfl fun m2 h2 => by simp only [opAlloc, *, if_true]
    · cases e

theorem opBox_idle {t : TypeId} {v : Value} {m m' : Mem} {x : Value} (e : opBox t v m = some (x, m')) : Idle (opBox t v) m x m' := by
  unfold opBox at e
  split at e
  · obtain ⟨rfl, rfl⟩ := Prod.mk.inj (Option.some.inj e)
    exact .new _ rfl fun m2 h2 => by simp only [opBox, *, if_true]
  · cases e

theorem opBuildSlice_idle {t : TypeId} {len : Nat} {parts : List (Nat × Value)} {m m' : Mem} {x : Value} (e : opBuildSlice P t len parts m = some (x, m')) :
    Idle (opBuildSlice P t len parts) m x m' := by
  unfold opBuildSlice at e
  split at e
  · split at e
    · split at e
      · rename_i hc
        split at e
        · cases e
        · obtain ⟨rfl, rfl⟩ := Prod.mk.inj (Option.some.inj e)
          refine .new _ rfl fun m2 h2 => ?_
          obtain ⟨c1, c2, c3, c4⟩ := hc
          simp [opBuildSlice, *]
          all_goals omega
      · cases e
    · cases e
  · cases e

theorem opMakeSlice_idle {t : TypeId} {l c : Value} {m m' : Mem} {x : Value} (e : opMakeSlice P t l c m = some (x, m')) : Idle (opMakeSlice P t l c) m x m' := by
  unfold opMakeSlice at e
  split at e
  · rename_i el k n k' n' hu
    split at e
    · rename_i s z b hs hz hb
      split at e
      · rename_i hc
        obtain ⟨rfl, rfl⟩ := Prod.mk.inj (Option.some.inj e)
        refine .new _ rfl fun m2 h2 => ?_
        simp only [opMakeSlice, hu, hs, hz, hb]
        rw [if_pos hc, h2]
      · cases e
    · cases e
  · cases e

theorem opConvert_idle {src dst : TypeId} {v : Value} {m m' : Mem} {x : Value} (hn : ∀ e, P.underlying src ≠ some (.slice e)) (e : opConvert P src dst v m = some (x, m')) : Idle (opConvert P src dst v) m x m' := by
  unfold opConvert at e
  split at e
  · obtain ⟨rfl, rfl⟩ := Prod.mk.inj (Option.some.inj e)
    exact .same rfl fun m2 => by simp only [opConvert, *]
  · obtain ⟨rfl, rfl⟩ := Prod.mk.inj (Option.some.inj e)
    exact .same rfl fun m2 => by simp only [opConvert, *]
  · split at e
    · split at e
      · rename_i hc
        obtain ⟨rfl, rfl⟩ := Prod.mk.inj (Option.some.inj e)
        refine .new _ rfl fun m2 h2 => ?_
        obtain ⟨c1, c2⟩ := hc
        simp [opConvert, *]
      · cases e
    · cases e
  · rename_i hs _
    exact absurd hs (hn _)
  · rename_i hs _
    exact absurd hs (hn _)
  · cases e

theorem opConvert_grow {src dst : TypeId} {v : Value} {m m' : Mem} {x : Value} (e : opConvert P src dst v m = some (x, m')) : Grow m m' := by
  unfold opConvert at e
  repeat' split at e
  all_goals first
    | (cases e; done)
    | (obtain ⟨_, rfl⟩ := Prod.mk.inj (Option.some.inj e); first | exact Grow.refl _ | exact Grow.new _ _)

theorem Idle.grow {f : Mem → Option (Value × Mem)} {m m' : Mem} {x : Value} (h : Idle f m x m') : Grow m m' := by
  cases h with
  | same h _ => rw [h]; exact Grow.refl _
  | new b h _ => rw [h]; exact Grow.new _ _

theorem evOp_grow {env : Env} {o : Op} {x : Value} {m m' : Mem} (e : evOp P env o m = some (x, m')) : Grow m m' := by
  unfold evOp at e
  split at e
  case h_4 => exact (opAlloc_idle e).grow
  all_goals (repeat' split at e)
  all_goals first
    | (cases e; done)
    | exact keep_grow e
    | exact (opBox_idle e).grow
    | exact (opBuildSlice_idle e).grow
    | exact (opMakeSlice_idle e).grow
    | exact opConvert_grow e
    | (obtain ⟨_, rfl⟩ := Prod.mk.inj (Option.some.inj e); first | exact Grow.refl _ | exact Grow.new _ _ | exact opStore_grow (by assumption) | exact opMapUpdate_grow (by assumption))

theorem Idle.congr {f g : Mem → Option (Value × Mem)} {m m' : Mem} {x : Value} (h : ∀ m2, f m2 = g m2) (k : Idle g m x m') : Idle f m x m' := by
  cases k with
  | same a b => exact .same a fun m2 => (h m2).trans (b m2)
  | new b a c => exact .new b a fun m2 h2 => (h m2).trans (c m2 h2)

/-- A step that reads no memory and writes none. -/
theorem evOp_idle {env : Env} {o : Op} {x : Value} {m m' : Mem} (hw : writes o = false) (hr : readsMemP P o = false) (e : evOp P env o m = some (x, m')) : Idle (evOp P env o) m x m' := by
  cases o
  case move y => exact Idle.of_keep (v := ev1 env y) (fun _ => rfl) e
  case assign y => exact Idle.of_keep (v := ev1 env y) (fun _ => rfl) e
  case pick c a b =>
    exact Idle.of_keep (v := match ev1 env c with | some (.bool true) => ev1 env a | some (.bool false) => ev1 env b | _ => none)
      (fun m2 => by simp only [evOp]; split <;> simp_all [keep]) e
  case alloc t => exact opAlloc_idle e
  case makeMap t r =>
    cases r with
    | some r => cases e
    | none =>
      obtain ⟨rfl, rfl⟩ := Prod.mk.inj (Option.some.inj e)
      exact .new _ rfl fun m2 h2 => by simp only [evOp, h2]
  case lookup => cases hr
  case mapUpdate => cases hw
  case call c =>
    obtain ⟨callee, args, ts⟩ := c
    cases callee with
    | builtin b =>
      cases b
      case len =>
        simp only [readsMemP] at hr
        have h0 : ∀ (x : Value) (m2 : Mem), opMapLen P ts.toList.head? x m2 = none := by
          intro x m2
          unfold opMapLen
          unfold isMap at hr
          cases hh : ts.toList.head? with
          | none => rfl
          | some t =>
            rw [hh] at hr
            dsimp only at hr ⊢
            split
            · rename_i hu; rw [hu] at hr; cases hr
            · rfl
        simp only [evOp, h0] at e
        split at e <;> cases e
      all_goals cases e
    | value f => cases e
    | invoke r n => cases e
  case load => cases hr
  case store => cases hw
  case build t parts =>
    exact Idle.of_keep (v := match evParts env parts.toList with | some vs => opBuild P t vs | none => none) (fun m2 => by simp only [evOp]; split <;> simp_all [keep]) e
  case nilCheck y =>
    exact Idle.of_keep (v := match ev1 env y with | some (.pointer (some p)) => some (.pointer (some p)) | some (.func (.func f) a b) => some (.func (.func f) a b) | _ => none)
      (fun m2 => by simp only [evOp]; split <;> simp_all [keep]) e
  case binOp op t y z ty =>
    exact Idle.of_keep (v := match ev1 env y, ev1 env z with | some a, some b => binV P op t a b | _, _ => none) (fun m2 => by simp only [evOp]; split <;> simp_all [keep]) e
  case unOp op t y =>
    exact Idle.of_keep (v := match ev1 env y with | some a => unV op a | none => none) (fun m2 => by simp only [evOp]; split <;> simp_all [keep]) e
  case slice t y lo hi mx =>
    cases mx with
    | some q => cases e
    | none =>
      refine Idle.of_keep (v := match ev1 env y, evOpt env lo, evOpt env hi with | some a, some l, some h => opSlice P t a l h | _, _, _ => none) (fun m2 => ?_) e
      simp only [evOp]
      split <;> simp_all [keep]
  case fieldAddr t y f =>
    exact Idle.of_keep (v := match ev1 env y with | some a => opFieldAddr P t a f | none => none) (fun m2 => by simp only [evOp]; split <;> simp_all [keep]) e
  case field t y f =>
    exact Idle.of_keep (v := match ev1 env y with | some a => opField P t a f | none => none) (fun m2 => by simp only [evOp]; split <;> simp_all [keep]) e
  case indexAddr t y z =>
    exact Idle.of_keep (v := match ev1 env y, ev1 env z with | some a, some b => opIndexAddr P t a b | _, _ => none) (fun m2 => by simp only [evOp]; split <;> simp_all [keep]) e
  case index t y z =>
    exact Idle.of_keep (v := match ev1 env y, ev1 env z with | some a, some b => opIndex P t a b | _, _ => none) (fun m2 => by simp only [evOp]; split <;> simp_all [keep]) e
  case extract y i =>
    exact Idle.of_keep (v := match ev1 env y with | some (.tuple vs) => vs[i]? | _ => none) (fun m2 => by simp only [evOp]; split <;> simp_all [keep]) e
  case makeFunc fn first captured =>
    cases fn with
    | func f =>
      refine Idle.of_keep (v := if first.size = 0 then match evs env captured.toList with | some vs => some (.func (.func f) #[] vs.toArray) | none => none else none) (fun m2 => ?_) e
      simp only [evOp]
      split
      · split <;> simp_all [keep]
      · simp_all [keep]
    | _ => cases e
  case convert src dst y =>
    have hn : ∀ e, P.underlying src ≠ some (.slice e) := fun el h => by simp [readsMemP, h] at hr
    cases hy : ev1 env y with
    | none => simp only [evOp, hy] at e; cases e
    | some v => simp only [evOp, hy] at e; exact (opConvert_idle hn e).congr fun m2 => by simp only [evOp, hy]
  case box t y =>
    cases hy : ev1 env y with
    | none => simp only [evOp, hy] at e; cases e
    | some v => simp only [evOp, hy] at e; exact (opBox_idle e).congr fun m2 => by simp only [evOp, hy]
  case buildSlice t len parts =>
    cases hy : evParts env parts.toList with
    | none => simp only [evOp, hy] at e; cases e
    | some v => simp only [evOp, hy] at e; exact (opBuildSlice_idle e).congr fun m2 => by simp only [evOp, hy]
  case makeSlice t l c =>
    cases hy : ev1 env l with
    | none => simp only [evOp, hy] at e; cases e
    | some v =>
      cases hz : ev1 env c with
      | none => simp only [evOp, hy, hz] at e; cases e
      | some u => simp only [evOp, hy, hz] at e; exact (opMakeSlice_idle e).congr fun m2 => by simp only [evOp, hy, hz]
  all_goals (cases e)

/-- A step that reads leaves the memory. -/
theorem evOp_reads {env : Env} {o : Op} {x : Value} {m m' : Mem} (hr : readsMemP P o = true) (e : evOp P env o m = some (x, m')) : m' = m := by
  cases o <;> first | (cases hr; done) | skip
  case load t a =>
    simp only [evOp] at e
    split at e
    · exact (keep_mem e).2
    · cases e
  case lookup t a k two =>
    simp only [evOp] at e
    split at e
    · exact (keep_mem e).2
    · cases e
  case call c =>
    obtain ⟨callee, args, ts⟩ := c
    cases callee with
    | builtin b =>
      cases b
      case len =>
        simp only [evOp] at e
        split at e
        · exact (keep_mem e).2
        · cases e
      all_goals cases e
    | value f => cases e
    | invoke r n => cases e
  case convert src dst y =>
    simp only [readsMemP] at hr
    split at hr
    · rename_i el hs
      simp only [evOp] at e
      split at e
      · unfold opConvert at e
        rw [hs] at e
        repeat' split at e
        all_goals first
          | (cases e; done)
          | (obtain ⟨_, rfl⟩ := Prod.mk.inj (Option.some.inj e); rfl)
          | (rename_i hx _; cases hx; done)
          | simp_all
      · cases e
    · cases hr
end Go.AM

namespace Go.AM
open Go
variable {P : Program} {β : Ren} {m : Mem} {w : World}

theorem run_builtin {ρ : Operand → Value} {o : Oper} {c : Call} {b : Builtin} (ho : o.op = .call c) (hc : c.callee = .builtin b) :
    (execOp ρ o).run P w = (builtin b c.argTypes o.type (c.args.map fun | .const _ => true | _ => false) (c.args.map ρ)).run P w := by
  simp [execOp, ho, resolve, hc, invoke]
  rfl

theorem evBuiltin_ok {ρ : Operand → Value} {o : Oper} {c : Call} {b : Builtin} {xs : List Value} {x : Value} {m' : Mem} (W : WRel P β m w) (hF : Free β m m') (ho : o.op = .call c) (hc : c.callee = .builtin b)
    (hl : LRel β xs (c.args.toList.map ρ)) (e : evBuiltin P b c.argTypes.toList xs m = some (x, m')) : OpOk P β m w x m' ((execOp ρ o).run P w) := by
  rw [run_builtin ho hc]
  have ha : c.args.map ρ = (c.args.toList.map ρ).toArray := by apply Array.ext'; simp
  have ht : c.argTypes = c.argTypes.toList.toArray := by simp
  rw [ha]
  generalize c.args.toList.map ρ = vs at hl
  unfold evBuiltin at e
  split at e
  · obtain ⟨z, w', β', h1, h2, h3⟩ := opAppend_rel (ty := o.type) W hF hl e
    refine ⟨z, w', β', .inl ?_, h2, h3⟩
    rw [ht]
    simp [builtin, h1]
  · rename_i y
    match vs, hl with
    | [u], ⟨hu, _⟩ =>
    split at e
    · rename_i v hv
      obtain ⟨rfl, rfl⟩ := Prod.mk.inj (Option.some.inj e)
      rw [ht]
      generalize c.argTypes.toList = tl at hv ⊢
      rcases tl with _ | ⟨t, ts⟩
      · simp [opLen] at hv
      · obtain ⟨h1, h2⟩ := opLen_rel (ts := ts) (P := P) (w := w) (ty := o.type) hu hv
        exact .same W (by simp [builtin, h1]) h2
    · obtain ⟨hv, rfl⟩ := keep_mem e
      rw [ht]
      generalize c.argTypes.toList = tl at hv ⊢
      rcases tl with _ | ⟨t, ts⟩
      · simp [opMapLen] at hv
      · obtain ⟨h1, h2⟩ := opMapLen_rel (ts := ts) (P := P) (w := w) (ty := o.type) W hu hv
        exact .same W (by simp [builtin, h1]) h2
  · rename_i y r
    match vs, hl with
    | u :: us, ⟨hu, hus⟩ =>
    split at e
    · rename_i v hv
      obtain ⟨rfl, rfl⟩ := Prod.mk.inj (Option.some.inj e)
      obtain ⟨z, h1, h2⟩ := foldMin_rel (P := P) (w := w) hu hus hv
      exact .same W (v := z) (by simp [builtin, Builtin.min_, h1]) h2
    · cases e
  · rename_i y r
    match vs, hl with
    | u :: us, ⟨hu, hus⟩ =>
    split at e
    · rename_i v hv
      obtain ⟨rfl, rfl⟩ := Prod.mk.inj (Option.some.inj e)
      obtain ⟨z, h1, h2⟩ := foldMax_rel (P := P) (w := w) hu hus hv
      exact .same W (v := z) (by simp [builtin, Builtin.max_, h1]) h2
    · cases e
  · obtain ⟨z, w', h1, h2, h3⟩ := opCopy_rel (ty := o.type) W hl e
    refine ⟨z, w', β, .inl ?_, h2, h3⟩
    rw [ht]
    simp [builtin, h1]
  · obtain ⟨z, w', h1, h2, h3⟩ := opDelete_rel (ty := o.type) W hl e
    refine ⟨z, w', β, .inl ?_, h2, h3⟩
    rw [ht]
    simp [builtin, h1]
  · cases e

/-- What a function of the program comes to, as the abstract machine tells it. -/
structure CallOk1 (P : Program) (f : FuncId) (xs : List Value) (m : Mem) (x : Value) (m' : Mem) : Prop where
  grow : Grow m m'
  fn : ∃ fn, P.funcs[f]? = some fn ∧ fn.body.isSome = true ∧ (fn.name == "runtime.NumGoroutine") = false
  runs : ∀ (β : Ren) (w : World) (vs : List Value), WRel P β m w → LRel β xs vs → Free β m m' →
    Calls P f vs.toArray w (fun e w' => ∃ v β', e = .returned v ∧ VRel β' x v ∧ Post P β m w m' β' w')

def CallOk (P : Program) (call : CallF) : Prop := ∀ f xs m x m', call f xs m = some (x, m') → CallOk1 P f xs m x m'

theorem OpOk.wp {o : Oper} {a : Act} {x : Value} {m' : Mem} {K : Act → World → Prop} {Q : Exit → Act → World → Prop} (h : OpOk P β m w x m' ((execOp a.eval o).run P w))
    (hK : ∀ v w' β', VRel β' x v → Post P β m w m' β' w' → K (a.put o.dst v) w') : o.wp P a w K Q := by
  obtain ⟨v, w', β', hr, hv, hp⟩ := h
  unfold Oper.wp
  rcases hr with hr | ⟨hr, rfl⟩
  · rw [hr]; exact hK v w' β' hv hp
  · rw [hr]; exact hK _ w' β' hv hp

/-- Any operation. -/
theorem stepOp_wp {N : Nat} {env : Env} {a : Act} {o : Oper} {x : Value} {m' : Mem} {call : CallF} (hcall : CallOk P call) (E : ERel β N env a) (W : WRel P β m w) (hF : Free β m m')
    (e : stepOp P call env o.op m = some (x, m')) {K : Act → World → Prop} {Q : Exit → Act → World → Prop}
    (hK : ∀ v w' β', VRel β' x v → Post P β m w m' β' w' → K (a.put o.dst v) w') : o.wp P a w K Q := by
  unfold stepOp at e
  split at e
  · rename_i c ho
    split at e
    · cases e
    · rename_i xs hxs
      have hl := evs_rel E hxs
      split at e
      · rename_i b hb
        exact (evBuiltin_ok W hF ho hb hl e).wp hK
      · rename_i f hf
        split at e
        · rename_i g first cap hv
          split at e
          · rename_i hfirst
            have hr := ev1_rel E hv
            generalize hg : a.eval f = u at hr
            cases hr with
            | func hs hcs =>
              rename_i cs'
              have hl2 : LRel β (xs ++ cap.toList) (c.args.toList.map a.eval ++ cs'.toList) :=
                hl.append (LRel.of (by simpa using hs) fun i y v h1 h2 => hcs i y v (by simpa using h1) (by simpa using h2))
              have C := hcall _ _ _ _ _ e
              obtain ⟨fn, hfn, hbody, hname⟩ := C.fn
              have hbn : fn.body ≠ none := by cases h : fn.body <;> simp_all
              have hnn : fn.name ≠ "runtime.NumGoroutine" := by simpa using hname
              have hrun : (execOp a.eval o).run P w = .ok (.enter g (c.args.toList.map a.eval ++ cs'.toList).toArray) w := by
                have ha : c.args.map a.eval ++ cs' = (c.args.toList.map a.eval ++ cs'.toList).toArray := by apply Array.ext'; simp
                simp [execOp, ho, resolve, hf, hg, Deferred.ofValue, invoke, callFunc, hfn, hnn, hbn, ha]
              unfold Oper.wp
              rw [hrun]
              refine Calls.mono (C.runs β w _ W hl2 hF) ?_
              rintro e w' ⟨v, β', rfl, hv', hp⟩
              exact hK v w' β' hv' hp
          · cases e
        · cases e
      · cases e
  · rename_i hcl
    exact (evOp_ok (fun c h => hcl c h) E W hF e).wp hK

def CallGrow (call : CallF) : Prop := ∀ f xs m x m', call f xs m = some (x, m') → Grow m m'
theorem CallOk.gr {call : CallF} (h : CallOk P call) : CallGrow call := fun f xs m x m' e => (h f xs m x m' e).grow

theorem stepOp_grow {env : Env} {o : Op} {x : Value} {m m' : Mem} {call : CallF} (hcall : CallGrow call) (e : stepOp P call env o m = some (x, m')) : Grow m m' := by
  unfold stepOp at e
  split at e
  · split at e
    · cases e
    · split at e
      · exact evBuiltin_grow e
      · split at e
        · split at e
          · exact hcall _ _ _ _ _ e
          · cases e
        · cases e
      · cases e
  · exact evOp_grow e

/-- A step that reads no memory and writes none. -/
theorem stepOp_idle {env : Env} {o : Op} {x : Value} {m m' : Mem} {call : CallF} (hw : writes o = false) (hr : readsMemP P o = false) (e : stepOp P call env o m = some (x, m')) :
    Idle (stepOp P call env o) m x m' := by
  cases o
  case call c =>
    obtain ⟨callee, args, argTypes⟩ := c
    simp only [stepOp] at e
    cases hx : evs env args.toList with
    | none => rw [hx] at e; cases e
    | some xs =>
      rw [hx] at e
      dsimp only at e
      cases callee with
      | value f => cases hw
      | invoke r n => cases e
      | builtin b =>
        dsimp only at e
        have hS : ∀ m2, stepOp P call env (.call ⟨.builtin b, args, argTypes⟩) m2 = evBuiltin P b argTypes.toList xs m2 := fun m2 => by simp only [stepOp, hx]
        refine Idle.congr hS ?_
        cases b
        case append => cases hw
        case copy => cases hw
        case delete => cases hw
        case len =>
          have h0 : ∀ (x : Value) (m2 : Mem), opMapLen P argTypes.toList.head? x m2 = none := by
            intro x m2
            simp only [readsMemP] at hr
            unfold opMapLen
            unfold isMap at hr
            cases hh : argTypes.toList.head? with
            | none => rfl
            | some t =>
              rw [hh] at hr
              dsimp only at hr ⊢
              split
              · rename_i hu; rw [hu] at hr; cases hr
              · rfl
          match xs with
          | [y] => exact Idle.of_keep (v := opLen P argTypes.toList.head? y) (fun m2 => by simp only [evBuiltin, h0]; cases opLen P argTypes.toList.head? y <;> rfl) e
          | [] => cases e
          | _ :: _ :: _ => cases e
        case min =>
          match xs with
          | y :: r => exact Idle.of_keep (v := foldV min2V y r) (fun m2 => by simp only [evBuiltin]; cases foldV min2V y r <;> rfl) e
          | [] => cases e
        case max =>
          match xs with
          | y :: r => exact Idle.of_keep (v := foldV max2V y r) (fun m2 => by simp only [evBuiltin]; cases foldV max2V y r <;> rfl) e
          | [] => cases e
        all_goals (unfold evBuiltin at e; split at e <;> first | (cases e; done) | simp_all)
  all_goals exact evOp_idle (env := env) hw hr e

/-- A step that reads calls no function of the program. -/
theorem reads_stepOp {call : CallF} {o : Op} {env : Env} {m : Mem} (hr : readsMemP P o = true) : stepOp P call env o m = evOp P env o m := by
  cases o
  case call c =>
    obtain ⟨callee, args, ts⟩ := c
    cases callee with
    | value f => cases hr
    | invoke r n => cases hr
    | builtin b =>
      cases b
      case len =>
        simp only [readsMemP] at hr
        have h0 : ∀ x : Value, opLen P ts.toList.head? x = none := by
          intro x
          unfold isMap at hr
          unfold opLen
          cases hh : ts.toList.head? with
          | none => rfl
          | some t =>
            rw [hh] at hr
            dsimp only at hr ⊢
            split at hr
            · rename_i hu
              rw [hu]
            · cases hr
        simp only [stepOp, evOp]
        cases hx : evs env args.toList with
        | none => rfl
        | some xs =>
          dsimp only
          match xs with
          | [x] => simp only [evBuiltin, h0]
          | [] => rfl
          | _ :: _ :: _ => rfl
      all_goals cases hr
  all_goals first | rfl | cases hr
end Go.AM

namespace Go.AM
open Go
variable {P : Program}

theorem evs_congr {env env' : Env} : ∀ {xs : List Operand}, (∀ x ∈ xs, ev1 env x = ev1 env' x) → evs env xs = evs env' xs
  | [], _ => rfl
  | x :: r, h => by
    simp only [evs, h x (List.mem_cons_self ..), evs_congr (xs := r) fun y hy => h y (List.mem_cons_of_mem _ hy)]

theorem evParts_congr {env env' : Env} : ∀ {xs : List (Nat × Operand)}, (∀ x ∈ xs, ev1 env x.2 = ev1 env' x.2) → evParts env xs = evParts env' xs
  | [], _ => rfl
  | (i, x) :: r, h => by
    simp only [evParts, h (i, x) (List.mem_cons_self ..), evParts_congr (xs := r) fun y hy => h y (List.mem_cons_of_mem _ hy)]

theorem evOpt_congr {env env' : Env} {x : Option Operand} (h : ∀ y, x = some y → ev1 env y = ev1 env' y) : evOpt env x = evOpt env' x := by
  cases x with
  | none => rfl
  | some y => simp only [evOpt, h y rfl]

theorem stepOp_congr {env env' : Env} {o : Op} {call : CallF} {m : Mem} (h : ∀ x ∈ o.operands, ev1 env x = ev1 env' x) : stepOp P call env o m = stepOp P call env' o m := by
  cases o <;> simp only [Op.operands] at h <;> simp only [stepOp, evOp]
  case build t ps => rw [evParts_congr fun x hx => h x.2 (by simpa using ⟨x.1, by simpa using hx⟩)]
  case buildSlice t n ps => rw [evParts_congr fun x hx => h x.2 (by simpa using ⟨x.1, by simpa using hx⟩)]
  case makeFunc fn first captured =>
    cases fn <;> simp only []
    rw [evs_congr fun x hx => h x (by simp at hx; simp [hx])]
  case call c =>
    have ha : evs env c.args.toList = evs env' c.args.toList := evs_congr fun x hx => h x (by simp at hx; simp [Call.operands, hx])
    have hf : ∀ f, c.callee = .value f → ev1 env f = ev1 env' f := fun f hf => h f (by simp [Call.operands, hf])
    rw [ha]
    cases hc : c.callee with
    | value f => simp only [hf f hc]
    | invoke r n => rfl
    | builtin b => rfl
  case makeMap t r => cases r <;> rfl
  case slice t x lo hi mx =>
    cases mx with
    | some q => rfl
    | none =>
      have h1 : ev1 env x = ev1 env' x := h x (by simp)
      have h2 : evOpt env lo = evOpt env' lo := evOpt_congr fun y hy => h y (by simp [hy])
      have h3 : evOpt env hi = evOpt env' hi := evOpt_congr fun y hy => h y (by simp [hy])
      simp only [h1, h2, h3]
  all_goals (first | rfl | (simp_all; done) | skip)

theorem undef_rel {β : Ren} : VRel β undef undef := .tuple rfl (fun i x x' h => by simp at h)

theorem guard_wanted {β : Ren} {N : Nat} {env : Env} {a : Act} {ops : Array Oper} {o : Oper} {b : Bool} (E : ERel β N env a) (h : guardOf ops env o = some b) :
    Region.wanted o (yielded ops a.tmps) = b := by
  unfold guardOf at h
  unfold Region.wanted
  split at h
  · rename_i hg
    rw [hg]
    exact Option.some.inj h
  · rename_i j want hg
    rw [hg]
    split at h
    · cases h
    · rename_i t ht
      split at h
      · rename_i c hc
        obtain ⟨v, hv, r⟩ := E.has t _ hc
        cases r
        simp only [yielded, ht, Option.bind_some, hv]
        rw [← Option.some.inj h]
        rfl
      · rename_i c hc
        obtain ⟨v, hv, r⟩ := E.has t _ hc
        cases r
        simp only [yielded, ht, Option.bind_some, hv]
        rw [← Option.some.inj h]
        rfl
      · cases h

theorem put_defers (a : Act) (d : Option Tmp) (v : Value) : (a.put d v).defers = a.defers := by cases d <;> rfl

theorem runOps_grow {call : CallF} (hcall : CallGrow call) {ops : Array Oper} : ∀ {l : List Nat} {env : Env} {m : Mem} {e : Env} {m' : Mem}, runOps P call ops l env m = some (e, m') → Grow m m'
  | [], env, m, e, m', h => by
    obtain ⟨_, rfl⟩ := Prod.mk.inj (Option.some.inj h)
    exact Grow.refl _
  | i :: r, env, m, e, m', h => by
    simp only [runOps] at h
    split at h
    · cases h
    · split at h
      · split at h
        · rename_i hs
          exact (stepOp_grow hcall hs).trans (runOps_grow hcall h)
        · cases h
      · exact runOps_grow hcall h
      · cases h

theorem runOps_ok {call : CallF} (hcall : CallOk P call) {ops : Array Oper} {N : Nat} (hd : ∀ (i : Nat) (o : Oper) (t : Nat), ops[i]? = some o → o.dst = some t → t < N) {Q : Exit → Act → World → Prop} :
    ∀ {l : List Nat} {env : Env} {a : Act} {m : Mem} {w : World} {β : Ren} {e : Env} {m' : Mem}, ERel β N env a → WRel P β m w → Free β m m' → runOps P call ops l env m = some (e, m') →
      (∀ a' w' β', ERel β' N e a' → a'.defers = a.defers → Post P β m w m' β' w' → Q .normal a' w') → wpOps P ops Q l a w
  | [], env, a, m, w, β, e, m', E, W, hF, h, K => by
    obtain ⟨rfl, rfl⟩ := Prod.mk.inj (Option.some.inj h)
    exact K a w β E rfl (Post.refl W)
  | i :: r, env, a, m, w, β, e, m', E, W, hF, h, K => by
    simp only [runOps] at h
    split at h
    · cases h
    · rename_i o ho
      simp only [wpOps, ho]
      split at h
      · rename_i hg
        rw [if_pos (guard_wanted E hg)]
        refine .inl ?_
        split at h
        · rename_i v m1 hs
          have g1 := stepOp_grow hcall.gr hs
          have g2 := runOps_grow hcall.gr h
          have hF1 : Free β m m1 := fun j h1 h2 => hF j h1 (Nat.lt_of_lt_of_le h2 g2.next)
          refine stepOp_wp hcall E W hF1 hs ?_
          intro v' w1 β1 hv p1
          have hE : ERel β1 N (env.put o.dst v) (a.put o.dst v') := (E.mono (p1.ext hF1)).put (hd i o · ho) hv
          have hF2 : Free β1 m1 m' := fun j h1 h2 => by
            rw [p1.out j (.inr h1)]
            exact hF j (Nat.le_trans g1.next h1) h2
          refine runOps_ok hcall hd hE p1.rel hF2 h ?_
          intro a' w' β' E' hdf p2
          exact K a' w' β' E' (hdf.trans (put_defers _ _ _)) (p1.trans p2 hF)
        · cases h
      · rename_i hg
        rw [if_neg (by rw [guard_wanted E hg]; simp)]
        refine runOps_ok hcall hd (E.put (hd i o · ho) undef_rel) W hF h ?_
        intro a' w' β' E' hdf p2
        exact K a' w' β' E' (hdf.trans (put_defers _ _ _)) p2
      · cases h
end Go.AM

namespace Go.AM
open Go

/-- The operations of a region, one by one. -/
structure Walk (P : Program) (call : CallF) (ops : Array Oper) (E : Nat → Env) (M : Nat → Mem) (V : Nat → Option Value) : Prop where
  guard : ∀ k o, ops[k]? = some o → guardOf ops (E k) o = some (V k).isSome
  step : ∀ k o v, ops[k]? = some o → V k = some v → stepOp P call (E k) o.op (M k) = some (v, M (k + 1))
  skip : ∀ k o, ops[k]? = some o → V k = none → M (k + 1) = M k
  env : ∀ k o, ops[k]? = some o → E (k + 1) = (E k).put o.dst ((V k).getD undef)

def Bef (bef : Array Nat) (i j : Nat) : Prop := (bef.getD j 0).testBit i = true

/-- What is asked of a region whose order is open. -/
structure RegOk (ops : Array Oper) (bef : Array Nat) : Prop where
  clos : ∀ (j : Nat) (o : Oper), ops[j]? = some o → ∀ i, Bef bef i j → ∃ e ∈ o.after.toList, Region.binds .any e = true ∧ (e.on = i ∨ Bef bef i e.on)
  edge : ∀ (j : Nat) (o : Oper), ops[j]? = some o → ∀ e ∈ o.after.toList, Region.binds .any e = true → e.on < j
  dst : ∀ (i j : Nat) (oi oj : Oper) (t : Nat), ops[i]? = some oi → ops[j]? = some oj → oi.dst = some t → oj.dst = some t → i = j
  data : ∀ (i j : Nat) (oi oj : Oper) (t : Nat), i ≠ j → ops[i]? = some oi → ops[j]? = some oj → oi.dst = some t → t ∈ oj.looksAt ops → Bef bef i j ∨ Bef bef j i
  wr : ∀ (i j : Nat) (oi oj : Oper), i < j → ops[i]? = some oi → ops[j]? = some oj → writes oi.op = true → writes oj.op = true → Bef bef i j

theorem RegOk.lt {ops : Array Oper} {bef : Array Nat} (R : RegOk ops bef) : ∀ (j : Nat) (o : Oper), ops[j]? = some o → ∀ i, Bef bef i j → i < j := by
  intro j
  induction j using Nat.strongRecOn with
  | _ j ih =>
    intro o ho i hb
    obtain ⟨e, he, hbd, h⟩ := R.clos j o ho i hb
    have hlt := R.edge j o ho e he hbd
    rcases h with h | h
    · omega
    · have hon : e.on < ops.size := by
        have : j < ops.size := by
          rcases Nat.lt_or_ge j ops.size with h' | h'
          · exact h'
          · rw [Array.getElem?_eq_none h'] at ho; cases ho
        omega
      have := ih e.on hlt ops[e.on] (Array.getElem?_eq_getElem hon) i h
      omega

section
variable {P : Program} {call : CallF} {ops : Array Oper} {E : Nat → Env} {M : Nat → Mem} {V : Nat → Option Value}

theorem Walk.grow (hcall : CallGrow call) (T : Walk P call ops E M V) : ∀ (b : Nat), b ≤ ops.size → ∀ a, a ≤ b → Grow (M a) (M b)
  | 0, _, a, h => by
    obtain rfl : a = 0 := by omega
    exact Grow.refl _
  | b + 1, hb, a, h => by
    by_cases he : a = b + 1
    · rw [he]; exact Grow.refl _
    · refine (T.grow hcall b (by omega) a (by omega)).trans ?_
      have ho : ops[b]? = some ops[b] := Array.getElem?_eq_getElem (by omega)
      cases hv : V b with
      | none => rw [T.skip b _ ho hv]; exact Grow.refl _
      | some v => exact stepOp_grow hcall (T.step b _ v ho hv)

def initAt (M : Nat → Mem) : Nat → Nat → Option Blk
  | 0, i => if i < (M 0).next then (M 0).get i else none
  | k + 1, i => if i < (M k).next then initAt M k i else if i < (M (k + 1)).next then (M (k + 1)).get i else none

theorem initAt_low {M : Nat → Mem} (hm : ∀ k, (M 0).next ≤ (M k).next) {i : Nat} (hi : i < (M 0).next) : ∀ k, initAt M k i = (M 0).get i
  | 0 => by simp [initAt, hi]
  | k + 1 => by
    have := hm k
    simp only [initAt]
    rw [if_pos (by omega), initAt_low hm hi k]

theorem initAt_at {M : Nat → Mem} {n j i : Nat} (hm : ∀ a b, a ≤ b → b ≤ n → (M a).next ≤ (M b).next) (h1 : (M j).next ≤ i) (h2 : i < (M (j + 1)).next) : ∀ k, j + 1 ≤ k → k ≤ n → initAt M k i = (M (j + 1)).get i
  | 0, h, _ => by omega
  | k + 1, h, hk => by
    simp only [initAt]
    by_cases he : j = k
    · subst he
      rw [if_neg (by omega), if_pos h2]
    · have := hm (j + 1) k (by omega) (by omega)
      rw [if_pos (by omega), initAt_at hm h1 h2 k (by omega) (by omega)]

theorem initAt_out {M : Nat → Mem} {n i : Nat} (hm : ∀ a b, a ≤ b → b ≤ n → (M a).next ≤ (M b).next) (h : (M n).next ≤ i) : ∀ k, k ≤ n → initAt M k i = none
  | 0, hk => by
    have := hm 0 n (by omega) (by omega)
    simp only [initAt]
    rw [if_neg (by omega)]
  | k + 1, hk => by
    have h1 := hm k n (by omega) (by omega)
    have h2 := hm (k + 1) n (by omega) (by omega)
    simp only [initAt]
    rw [if_neg (by omega), if_neg (by omega)]

/-- An operation that is performed and writes. -/
def Wr (ops : Array Oper) (V : Nat → Option Value) (i : Nat) : Prop := ∃ o, ops[i]? = some o ∧ writes o.op = true ∧ (V i).isSome = true

theorem Walk.still (T : Walk P call ops E M V) {k : Nat} {o : Oper} (ho : ops[k]? = some o) (hw : ¬ Wr ops V k) :
    M (k + 1) = M k ∨ ∃ b, M (k + 1) = (M k).new b := by
  cases hv : V k with
  | none => exact .inl (T.skip k o ho hv)
  | some v =>
    have hs := T.step k o v ho hv
    have hwr : writes o.op = false := by
      cases h : writes o.op with
      | false => rfl
      | true => exact absurd ⟨o, ho, h, by simp [hv]⟩ hw
    by_cases hr : readsMemP P o.op = true
    · refine .inl ?_
      have : stepOp P call (E k) o.op (M k) = evOp P (E k) o.op (M k) := reads_stepOp hr
      rw [this] at hs
      exact evOp_reads hr hs
    · cases stepOp_idle hwr (by simpa using hr) hs with
      | same h _ => exact .inl h
      | new b h _ => exact .inr ⟨b, h⟩

theorem Walk.quiet (hcall : CallGrow call) (T : Walk P call ops E M V) (a : Nat) : ∀ (b : Nat), a ≤ b → b ≤ ops.size → (∀ q, a ≤ q → q < b → ¬ Wr ops V q) →
    ∀ i, i < (M b).next → (i < (M a).next → (M b).get i = (M a).get i) ∧ ((M a).next ≤ i → (M b).get i = initAt M ops.size i)
  | 0, hab, _, _, i, hi => by
    obtain rfl : a = 0 := by omega
    exact ⟨fun _ => rfl, fun h => by omega⟩
  | b + 1, hab, hb, hw, i, hi => by
    by_cases he : a = b + 1
    · subst he
      exact ⟨fun _ => rfl, fun h => by omega⟩
    · have ih := T.quiet hcall a b (by omega) (by omega) (fun q h1 h2 => hw q h1 (by omega)) i
      have hm : ∀ a b, a ≤ b → b ≤ ops.size → (M a).next ≤ (M b).next := fun a b h1 h2 => (T.grow hcall b h2 a h1).next
      have hab' := hm a b (by omega) (by omega)
      have ho : ops[b]? = some ops[b] := Array.getElem?_eq_getElem (by omega)
      rcases T.still ho (hw b (by omega) (by omega)) with h | ⟨x, h⟩
      · rw [h] at hi ⊢
        exact ih hi
      · by_cases hib : i < (M b).next
        · have : (M (b + 1)).get i = (M b).get i := by
            rw [h]; simp only [Mem.new]; rw [if_neg (by omega)]
          rw [this]
          exact ih hib
        · refine ⟨fun h => by omega, fun _ => ?_⟩
          rw [initAt_at hm (by omega) hi ops.size (by omega) (Nat.le_refl _)]

theorem next_writer (Wr : Nat → Prop) (n : Nat) : ∀ d q, n - q = d → q ≤ n → ∃ p, q ≤ p ∧ p ≤ n ∧ (∀ i, q ≤ i → i < p → ¬ Wr i) ∧ (p < n → Wr p)
  | 0, q, hd, hq => ⟨q, Nat.le_refl _, hq, fun i h1 h2 => by omega, fun h => by omega⟩
  | d + 1, q, hd, hq => by
    by_cases h : Wr q
    · exact ⟨q, Nat.le_refl _, hq, fun i h1 h2 => by omega, fun _ => h⟩
    · obtain ⟨p, h1, h2, h3, h4⟩ := next_writer Wr n d (q + 1) (by omega) (by omega)
      refine ⟨p, by omega, h2, fun i h5 h6 => ?_, h4⟩
      by_cases he : i = q
      · rw [he]; exact h
      · exact h3 i (by omega) h6

/-- The memory while the next writer is p: what it has been given so far; what is made later stands as it was made. -/
def memX (M : Nat → Mem) (n p : Nat) : Mem := { get := fun i => if i < (M p).next then (M p).get i else initAt M n i, next := (M n).next }

/-- A step at a part of the memory, seen in the whole. -/
theorem WRel.merge {β β' : Ren} {X X' A A' : Mem} {w w' : World} (hX : WRel P β X w) (hA : ∀ i b, A.get i = some b → X.get i = some b) (hp : Post P β A w A' β' w') (hF : Free β A A') (hg : Grow A A')
    (hm : ∀ i b, X'.get i = some b → β' i = none ∨ A'.get i = some b ∨ (X.get i = some b ∧ A.get i = none ∧ (i < A.next ∨ A'.next ≤ i)))
    (hf : ∀ i, X'.next ≤ i → X'.get i = none) : WRel P β' X' w' := by
  have hle := hp.ext hF
  -- what stands of an old block beside the part
  have old : ∀ i b L, X.get i = some b → A.get i = none → (i < A.next ∨ A'.next ≤ i) → β' i = some L → β i = some L ∧ w'.heap[L.g]? = w.heap[L.g]? := by
    intro i b L h1 h2 h3 h4
    rw [hp.out i h3] at h4
    refine ⟨h4, hp.frame.block L.g (hX.dom i b L h1 h4) ?_⟩
    intro k bk Lk hk hko hLk e
    have := hX.inj k i bk b Lk L (hA k bk hk) h1 hLk h4 e (.inl hko)
    subst this
    rw [h2] at hk
    cases hk
  have cross : ∀ i j bi bj L L', A'.get i = some bi → X.get j = some bj → A.get j = none → (j < A.next ∨ A'.next ≤ j) → β' i = some L → β' j = some L' → L.g = L'.g → (bi.own = true ∨ bj.own = true) → False := by
    intro i j bi bj L L' h1 h2 h3 h4 h5 h6 e ho
    have hj := (old j bj L' h2 h3 h4 h6).1
    have hi : i < A'.next := by
      rcases Nat.lt_or_ge i A'.next with h | h
      · exact h
      · rw [hp.rel.fresh i h] at h1; cases h1
    by_cases hi2 : i < A.next
    · obtain ⟨b0, hb0, hbo⟩ := hg.dom i bi hi2 h1
      rw [hp.out i (.inl hi2)] at h5
      have := hX.inj i j b0 bj L L' (hA i b0 hb0) h2 h5 hj e (ho.imp hbo id)
      subst this
      rw [h3] at hb0
      cases hb0
    · rcases hp.far i L (by omega) hi h5 with h | ⟨k, bk, Lk, hk, hko, hLk, hkg⟩
      · have := hX.dom j bj L' h2 hj
        omega
      · have := hX.inj k j bk bj Lk L' (hA k bk hk) h2 hLk hj (hkg.trans e) (.inl hko)
        subst this
        rw [h3] at hk
        cases hk
  refine ⟨?_, ?_, ?_, hf⟩
  · intro i b L h1 h2
    rcases hm i b h1 with h | h | ⟨h, h3, h4⟩
    · rw [h] at h2; cases h2
    · exact hp.rel.blk i b L h h2
    · obtain ⟨h5, h6⟩ := old i b L h h3 h4 h2
      rw [h6]
      exact (hX.blk i b L h h5).mono hle
  · intro i j bi bj L L' h1 h2 h3 h4 e ho
    rcases hm i bi h1 with h | h | ⟨h, h5, h6⟩
    · rw [h] at h3; cases h3
    · rcases hm j bj h2 with k | k | ⟨k, k5, k6⟩
      · rw [k] at h4; cases h4
      · exact hp.rel.inj i j bi bj L L' h k h3 h4 e ho
      · exact (cross i j bi bj L L' h k k5 k6 h3 h4 e ho).elim
    · rcases hm j bj h2 with k | k | ⟨k, k5, k6⟩
      · rw [k] at h4; cases h4
      · exact (cross j i bj bi L' L k h h5 h6 h4 h3 e.symm ho.symm).elim
      · exact hX.inj i j bi bj L L' h k (old i bi L h h5 h6 h3).1 (old j bj L' k k5 k6 h4).1 e ho
  · intro i b L h1 h2
    rcases hm i b h1 with h | h | ⟨h, h3, h4⟩
    · rw [h] at h2; cases h2
    · exact hp.rel.dom i b L h h2
    · exact Nat.lt_of_lt_of_le (hX.dom i b L h (old i b L h h3 h4 h2).1) hp.frame.size
end
end Go.AM

namespace Go.AM
open Go

def In (S : Array Bool) (i : Nat) : Prop := S.getD i false = true

section
variable {P : Program} {call : CallF} {ops : Array Oper} {E : Nat → Env} {M : Nat → Mem} {V : Nat → Option Value} {bef : Array Nat} {N : Nat}

def val (V : Nat → Option Value) (i : Nat) : Value := (V i).getD undef

/-- What the temporaries are to hold. -/
def Due (ops : Array Oper) (E : Nat → Env) (V : Nat → Option Value) (S : Array Bool) (t : Nat) (x : Value) : Prop :=
  (∃ i o, In S i ∧ ops[i]? = some o ∧ o.dst = some t ∧ x = val V i) ∨ ((∀ i o, In S i → ops[i]? = some o → o.dst ≠ some t) ∧ E 0 t = some x)

structure Inv (P : Program) (ops : Array Oper) (E : Nat → Env) (M : Nat → Mem) (V : Nat → Option Value) (bef : Array Nat) (N : Nat) (β0 : Ren) (w0 : World) (d0 : List Deferred)
    (S : Array Bool) (a : Act) (w : World) (β : Ren) (p : Nat) : Prop where
  hp : p ≤ ops.size
  lo : ∀ i, i < p → Wr ops V i → In S i
  hi : p < ops.size → Wr ops V p
  hi2 : ∀ i, p ≤ i → Wr ops V i → ¬ In S i
  cl : ∀ j, In S j → ∀ i, Bef bef i j → In S i
  sz : S.size = ops.size
  env : ∀ t x, Due ops E V S t x → ∃ v, a.tmps[t]? = some v ∧ VRel β x v
  asz : a.tmps.size = N
  dfs : a.defers = d0
  rel : WRel P β (memX M ops.size p) w
  low : ∀ i, i < (M p).next → β i = none → (M p).get i = initAt M ops.size i
  out : ∀ i, (i < (M 0).next ∨ (M ops.size).next ≤ i) → β i = β0 i
  un : ∀ j o, ops[j]? = some o → ¬ In S j → ∀ i, (M j).next ≤ i → i < (M (j + 1)).next → β i = none
  far : ∀ i L, (M 0).next ≤ i → i < (M ops.size).next → β i = some L → w0.heap.size ≤ L.g ∨ ∃ k b Lk, (M 0).get k = some b ∧ b.own = true ∧ β0 k = some Lk ∧ Lk.g = L.g
  frame : Frame β0 (M 0) w0 w

theorem in_set {S : Array Bool} {i j : Nat} (hj : j < S.size) : In (S.setIfInBounds j true) i ↔ In S i ∨ i = j := by
  unfold In
  by_cases h : i = j
  · subst h
    simp [Array.getD_eq_getD_getElem?, hj]
  · simp [Array.getD_eq_getD_getElem?, Array.getElem?_setIfInBounds_ne (fun e => h e.symm), h]

theorem mem_ready {S : Array Bool} {j : Nat} (h : j ∈ Region.ready .any ops S) (hs : S.size = ops.size) :
    ∃ o, ops[j]? = some o ∧ j < ops.size ∧ ¬ In S j ∧ ∀ e ∈ o.after.toList, Region.binds .any e = true → In S e.on := by
  unfold Region.ready at h
  rw [List.mem_filter] at h
  obtain ⟨h1, h2⟩ := h
  have hj : j < ops.size := by simpa using h1
  have ho : ops[j]? = some ops[j] := Array.getElem?_eq_getElem hj
  rw [ho] at h2
  simp only [Bool.and_eq_true, Option.map_some, Option.getD_some] at h2
  refine ⟨_, ho, hj, ?_, ?_⟩
  · unfold In
    have := h2.1
    simp only [Array.getD_eq_getD_getElem?] at this ⊢
    rw [Array.getElem?_eq_getElem (by omega)] at this ⊢
    simp at this ⊢
    exact this
  · intro e he hb
    have := h2.2
    rw [Array.all_eq_true_iff_forall_mem] at this
    have := this e (by simpa using he)
    simp only [hb, Bool.not_true, Bool.false_or] at this
    exact this

variable {β0 : Ren} {w0 : World} {d0 : List Deferred} {S : Array Bool} {a : Act} {w : World} {β : Ren} {p : Nat}

theorem Inv.ahead (I : Inv P ops E M V bef N β0 w0 d0 S a w β p) (R : RegOk ops bef) {j : Nat} {o : Oper} (ho : ops[j]? = some o) (hr : ∀ e ∈ o.after.toList, Region.binds .any e = true → In S e.on) :
    ∀ i, Bef bef i j → In S i := by
  intro i hi
  obtain ⟨e, he, hb, h⟩ := R.clos j o ho i hi
  rcases h with h | h
  · rw [← h]; exact hr e he hb
  · exact I.cl e.on (hr e he hb) i h

/-- What the walk's environment holds, as the region began with it and as its operations came. -/
theorem Walk.envAt (T : Walk P call ops E M V) (R : RegOk ops bef) (t : Nat) : ∀ (j : Nat), j ≤ ops.size → ∀ x, E j t = some x →
    (∃ i o, i < j ∧ ops[i]? = some o ∧ o.dst = some t ∧ x = val V i) ∨ ((∀ i o, i < j → ops[i]? = some o → o.dst ≠ some t) ∧ E 0 t = some x)
  | 0, _, x, h => .inr ⟨fun i o hi => by omega, h⟩
  | j + 1, hj, x, h => by
    have ho : ops[j]? = some ops[j] := Array.getElem?_eq_getElem (by omega)
    rw [T.env j _ ho] at h
    by_cases hd : ops[j].dst = some t
    · refine .inl ⟨j, _, by omega, ho, hd, ?_⟩
      rw [hd] at h
      simp only [Env.put, if_true, Option.some.injEq] at h
      exact h.symm
    · have h' : E j t = some x := by
        cases hq : ops[j].dst with
        | none => rw [hq] at h; exact h
        | some q =>
          rw [hq] at h hd
          simp only [Env.put] at h
          rwa [if_neg (fun e => hd (by rw [e]))] at h
      rcases T.envAt R t j (by omega) x h' with ⟨i, o, h1, h2, h3, h4⟩ | ⟨h1, h2⟩
      · exact .inl ⟨i, o, by omega, h2, h3, h4⟩
      · refine .inr ⟨fun i o hi ho' => ?_, h2⟩
        by_cases he : i = j
        · subst he
          rw [ho] at ho'
          obtain rfl := Option.some.inj ho'
          exact hd
        · exact h1 i o (by omega) ho'

/-- The environment of an operation, as far as it looks. -/
def seen (ops : Array Oper) (E : Nat → Env) (j : Nat) (o : Oper) : Env := fun t => if t ∈ o.looksAt ops then E j t else none

theorem Inv.erel (I : Inv P ops E M V bef N β0 w0 d0 S a w β p) (R : RegOk ops bef) (T : Walk P call ops E M V) {j : Nat} {o : Oper} (ho : ops[j]? = some o) (hj : j < ops.size) (hn : ¬ In S j)
    (hr : ∀ e ∈ o.after.toList, Region.binds .any e = true → In S e.on) : ERel β N (seen ops E j o) a := by
  refine ⟨I.asz, fun t x h => I.env t x ?_⟩
  unfold seen at h
  split at h
  · rename_i ht
    rcases T.envAt R t j (by omega) x h with ⟨i, oi, h1, h2, h3, h4⟩ | ⟨h1, h2⟩
    · refine .inl ⟨i, oi, ?_, h2, h3, h4⟩
      rcases R.data i j oi o t (by omega) h2 ho h3 ht with hb | hb
      · exact I.ahead R ho hr i hb
      · have := R.lt i oi h2 j hb
        omega
    · refine .inr ⟨fun i oi hi h3 h4 => ?_, h2⟩
      by_cases hij : i < j
      · exact h1 i oi hij h3 h4
      · by_cases he : i = j
        · subst he; exact hn hi
        · rcases R.data i j oi o t he h3 ho h4 ht with hb | hb
          · have := R.lt j o ho i hb
            omega
          · exact hn (I.cl i hi j hb)
  · cases h

theorem seen_ev {j : Nat} {o : Oper} {x : Operand} (hx : x ∈ o.op.operands) : ev1 (seen ops E j o) x = ev1 (E j) x := by
  cases x with
  | tmp t =>
    have : t ∈ o.looksAt ops := List.mem_append_left _ (List.mem_filterMap.2 ⟨.tmp t, by simpa using hx, rfl⟩)
    simp only [ev1, seen, if_pos this]
  | _ => rfl

theorem seen_step {j : Nat} {o : Oper} {m : Mem} : stepOp P call (seen ops E j o) o.op m = stepOp P call (E j) o.op m :=
  stepOp_congr fun _ hx => seen_ev hx

theorem seen_guard {j : Nat} {o : Oper} : guardOf ops (seen ops E j o) o = guardOf ops (E j) o := by
  unfold guardOf
  split
  · rfl
  · rename_i g want hg
    split
    · rfl
    · rename_i t ht
      have : t ∈ o.looksAt ops := List.mem_append_right _ (by simp [hg, ht])
      simp only [seen, if_pos this]

/-- One more operation is through. -/
theorem Inv.next (I : Inv P ops E M V bef N β0 w0 d0 S a w β p) (hcall : CallGrow call) (R : RegOk ops bef) (T : Walk P call ops E M V) (hN : ∀ (i : Nat) (o : Oper) (t : Nat), ops[i]? = some o → o.dst = some t → t < N)
    {j : Nat} {o : Oper} (ho : ops[j]? = some o) (hj : j < ops.size) (hn : ¬ In S j) (hr : ∀ e ∈ o.after.toList, Region.binds .any e = true → In S e.on)
    {A A' : Mem} {β' : Ren} {w' : World} {v : Value} {p' : Nat} (hA : ∀ i b, A.get i = some b → (memX M ops.size p).get i = some b)
    (hrange : A.next = (M j).next ∧ A'.next = (M (j + 1)).next ∨ A.next = A'.next) (hchain : ∀ i b, i < (M 0).next → A.get i = some b → b.own = true → ∃ b0, (M 0).get i = some b0 ∧ b0.own = true)
    (hpost : Post P β A w A' β' w') (hFA : Free β A A') (hgr : Grow A A') (hv : VRel β' (val V j) v)
    (hp' : p' ≤ ops.size) (lo' : ∀ i, i < p' → Wr ops V i → In S i ∨ i = j) (hi' : p' < ops.size → Wr ops V p') (hi2' : ∀ i, p' ≤ i → Wr ops V i → ¬ (In S i ∨ i = j))
    (low' : ∀ i, i < (M p').next → β' i = none → (M p').get i = initAt M ops.size i)
    (hm : ∀ i b, (memX M ops.size p').get i = some b → β' i = none ∨ A'.get i = some b ∨ ((memX M ops.size p).get i = some b ∧ A.get i = none ∧ (i < A.next ∨ A'.next ≤ i))) :
    Inv P ops E M V bef N β0 w0 d0 (S.setIfInBounds j true) (a.put o.dst v) w' β' p' := by
  have hjS : j < S.size := by rw [I.sz]; exact hj
  have hle := hpost.ext hFA
  have hmono : ∀ a b, a ≤ b → b ≤ ops.size → (M a).next ≤ (M b).next := fun a b h1 h2 => (T.grow hcall b h2 a h1).next
  have hj1 := hmono 0 j (by omega) (by omega)
  have hj2 := hmono j (j + 1) (by omega) (by omega)
  have hj3 := hmono (j + 1) ops.size (by omega) (by omega)
  have hsame : ∀ i, (i < (M j).next ∨ (M (j + 1)).next ≤ i) → β' i = β i := by
    intro i hi
    refine hpost.out i ?_
    rcases hrange with ⟨h1, h2⟩ | h1
    · rw [h1, h2]; exact hi
    · omega
  refine ⟨hp', fun i h1 h2 => (in_set hjS).2 (lo' i h1 h2), hi', fun i h1 h2 h3 => hi2' i h1 h2 ((in_set hjS).1 h3), ?_, by simp [I.sz], ?_, ?_, ?_, ?_, low', ?_, ?_, ?_, ?_⟩
  · intro k hk i hb
    rw [in_set hjS] at hk ⊢
    rcases hk with hk | rfl
    · exact .inl (I.cl k hk i hb)
    · exact .inl (I.ahead R ho hr i hb)
  · intro t x hD
    have old : Due ops E V S t x → o.dst ≠ some t → ∃ u, (a.put o.dst v).tmps[t]? = some u ∧ VRel β' x u := by
      intro hd hne
      obtain ⟨u, hu, ru⟩ := I.env t x hd
      refine ⟨u, ?_, ru.mono hle⟩
      cases hq : o.dst with
      | none => exact hu
      | some q =>
        simp only [Act.put]
        rw [Array.getElem?_setIfInBounds_ne (fun e => hne (by rw [hq, e]))]
        exact hu
    have self : o.dst = some t → ∃ u, (a.put o.dst v).tmps[t]? = some u ∧ VRel β' (val V j) u := by
      intro hd
      refine ⟨v, ?_, hv⟩
      have := hN j o t ho hd
      rw [hd]
      simp [Act.put, I.asz, this]
    rcases hD with ⟨i, oi, h1, h2, h3, h4⟩ | ⟨h1, h2⟩
    · rw [in_set hjS] at h1
      rcases h1 with h1 | rfl
      · refine old (.inl ⟨i, oi, h1, h2, h3, h4⟩) fun hd => ?_
        have := R.dst i j oi o t h2 ho h3 hd
        subst this
        exact hn h1
      · rw [ho] at h2
        obtain rfl := Option.some.inj h2
        rw [h4]
        exact self h3
    · have hne : o.dst ≠ some t := h1 j o ((in_set hjS).2 (.inr rfl)) ho
      exact old (.inr ⟨fun i oi hi => h1 i oi ((in_set hjS).2 (.inl hi)), h2⟩) hne
  · cases hq : o.dst <;> simp [Act.put, I.asz]
  · rw [put_defers]; exact I.dfs
  · refine WRel.merge I.rel hA hpost hFA hgr hm ?_
    intro i hi
    simp only [memX] at hi ⊢
    have := hmono p' ops.size hp' (Nat.le_refl _)
    rw [if_neg (by omega)]
    exact initAt_out hmono hi _ (Nat.le_refl _)
  · intro i hi
    rw [hsame i (by omega)]
    exact I.out i hi
  · intro k ok hok hk i h1 h2
    rw [in_set hjS] at hk
    have hkj : k ≠ j := fun e => hk (.inr e)
    have hks : k < ops.size := by
      rcases Nat.lt_or_ge k ops.size with h | h
      · exact h
      · rw [Array.getElem?_eq_none h] at hok; cases hok
    have : i < (M j).next ∨ (M (j + 1)).next ≤ i := by
      rcases Nat.lt_or_ge k j with h | h
      · have := hmono (k + 1) j (by omega) (by omega)
        omega
      · have := hmono (j + 1) k (by omega) (by omega)
        omega
    rw [hsame i this]
    exact I.un k ok hok (fun h => hk (.inl h)) i h1 h2
  · intro i L h1 h2 hL
    by_cases hi : i < A.next ∨ A'.next ≤ i
    · rw [hpost.out i hi] at hL
      exact I.far i L h1 h2 hL
    · rcases hpost.far i L (by omega) (by omega) hL with h | ⟨k, bk, Lk, hk, hko, hkL, hkg⟩
      · exact .inl (Nat.le_trans I.frame.size h)
      · by_cases hk0 : k < (M 0).next
        · obtain ⟨b0, hb0, ho0⟩ := hchain k bk hk0 hk hko
          rw [I.out k (.inl hk0)] at hkL
          exact .inr ⟨k, b0, Lk, hb0, ho0, hkL, hkg⟩
        · have hkn : k < (M ops.size).next := by
            rcases Nat.lt_or_ge k (M ops.size).next with h | h
            · exact h
            · have h9 := hA k bk hk
              rw [I.rel.fresh k (by simpa [memX] using h)] at h9
              cases h9
          rw [← hkg]
          exact I.far k Lk (by omega) hkn hkL
  · refine ⟨hpost.frame.os.trans I.frame.os, hpost.frame.tape.trans I.frame.tape, hpost.frame.output.trans I.frame.output, Nat.le_trans I.frame.size hpost.frame.size, fun g hg hno => ?_⟩
    rw [hpost.frame.block g (Nat.lt_of_lt_of_le hg I.frame.size) ?_, I.frame.block g hg hno]
    intro k bk Lk hk hko hkL e
    by_cases hk0 : k < (M 0).next
    · obtain ⟨b0, hb0, ho0⟩ := hchain k bk hk0 hk hko
      rw [I.out k (.inl hk0)] at hkL
      exact hno k b0 Lk hb0 ho0 hkL e
    · have hkn : k < (M ops.size).next := by
        rcases Nat.lt_or_ge k (M ops.size).next with h | h
        · exact h
        · have h9 := hA k bk hk
          rw [I.rel.fresh k (by simpa [memX] using h)] at h9
          cases h9
      rcases I.far k Lk (by omega) hkn hkL with h | ⟨q, bq, Lq, hq, hqo, hqL, hqg⟩
      · omega
      · exact hno q bq Lq hq hqo hqL (hqg.trans e)
end
end Go.AM

namespace Go.AM
open Go

section
variable {P : Program} {call : CallF} {ops : Array Oper} {E : Nat → Env} {M : Nat → Mem} {V : Nat → Option Value} {bef : Array Nat} {N : Nat}
variable {β0 : Ren} {w0 : World} {d0 : List Deferred} {S : Array Bool} {a : Act} {w : World} {β : Ren} {p : Nat}

/-- What is read is the same wherever the reading may stand. -/
def Calm (P : Program) (ops : Array Oper) (E : Nat → Env) (M : Nat → Mem) (V : Nat → Option Value) (bef : Array Nat) : Prop :=
  ∀ (j : Nat) (o : Oper) (x : Value) (p : Nat), ops[j]? = some o → V j = some x → readsMemP P o.op = true → p ≤ ops.size → (p < ops.size → Wr ops V p) →
    (∀ q, Wr ops V q → q ≠ j → (q < p → ¬ Bef bef j q) ∧ (p ≤ q → ¬ Bef bef q j)) → ∃ m2, evOp P (E j) o.op (M p) = some (x, m2)

theorem reads_step {o : Op} {env : Env} {m : Mem} (hr : readsMemP P o = true) : stepOp P call env o m = evOp P env o m := reads_stepOp hr

theorem reads_still {o : Op} (hr : readsMemP P o = true) : writes o = false := by
  cases o
  case call c =>
    obtain ⟨callee, args, ts⟩ := c
    cases callee with
    | builtin b => cases b <;> first | rfl | cases hr
    | value f => cases hr
    | invoke r n => cases hr
  all_goals first | rfl | cases hr

theorem Inv.part (I : Inv P ops E M V bef N β0 w0 d0 S a w β p) (hcall : CallGrow call) (T : Walk P call ops E M V) (hfr : ∀ i, (M 0).next ≤ i → (M 0).get i = none) {k : Nat} (hk : k ≤ ops.size) {g : Nat → Option Blk}
    (hg : ∀ i b, g i = some b → i < (M k).next ∧ (memX M ops.size p).get i = some b) : WRel P β { get := g, next := (M k).next } w := by
  refine ⟨fun i b L h1 h2 => I.rel.blk i b L (hg i b h1).2 h2, fun i j bi bj L L' h1 h2 h3 h4 e => I.rel.inj i j bi bj L L' (hg i bi h1).2 (hg j bj h2).2 h3 h4 e, fun i b L h1 h2 => I.rel.dom i b L (hg i b h1).2 h2, fun i hi => ?_⟩
  cases h : g i with
  | none => exact h
  | some b =>
    have := (hg i b h).1
    simp only at hi
    omega

theorem Walk.fresh (hcall : CallGrow call) (T : Walk P call ops E M V) (hfr : ∀ i, (M 0).next ≤ i → (M 0).get i = none) {k : Nat} (hk : k ≤ ops.size) : ∀ i, (M k).next ≤ i → (M k).get i = none :=
  (T.grow hcall k hk 0 (by omega)).fresh hfr

theorem Walk.sub (hcall : CallGrow call) (T : Walk P call ops E M V) (hfr : ∀ i, (M 0).next ≤ i → (M 0).get i = none) (hp : p ≤ ops.size) {i : Nat} {b : Blk} (h : (M p).get i = some b) : i < (M p).next ∧ (memX M ops.size p).get i = some b := by
  have : i < (M p).next := by
    rcases Nat.lt_or_ge i (M p).next with h' | h'
    · exact h'
    · rw [T.fresh hcall hfr hp i h'] at h; cases h
  refine ⟨this, ?_⟩
  simp only [memX]
  rw [if_pos this, h]

theorem Inv.now (I : Inv P ops E M V bef N β0 w0 d0 S a w β p) (hcall : CallGrow call) (T : Walk P call ops E M V) (hfr : ∀ i, (M 0).next ≤ i → (M 0).get i = none) : WRel P β (M p) w :=
  I.part hcall T hfr I.hp (g := (M p).get) fun _ _ h => T.sub hcall hfr I.hp h

/-- An operation that writes nothing. -/
theorem Inv.next0 (I : Inv P ops E M V bef N β0 w0 d0 S a w β p) (hcall : CallGrow call) (R : RegOk ops bef) (T : Walk P call ops E M V) (hN : ∀ (i : Nat) (o : Oper) (t : Nat), ops[i]? = some o → o.dst = some t → t < N)
    {j : Nat} {o : Oper} (ho : ops[j]? = some o) (hj : j < ops.size) (hn : ¬ In S j) (hr : ∀ e ∈ o.after.toList, Region.binds .any e = true → In S e.on) (hw : ¬ Wr ops V j)
    {A A' : Mem} {β' : Ren} {w' : World} {v : Value} (hA : ∀ i b, A.get i = some b → (memX M ops.size p).get i = some b)
    (hrange : A.next = (M j).next ∧ A'.next = (M (j + 1)).next ∨ A.next = A'.next) (hchain : ∀ i b, i < (M 0).next → A.get i = some b → b.own = true → ∃ b0, (M 0).get i = some b0 ∧ b0.own = true)
    (hpost : Post P β A w A' β' w') (hFA : Free β A A') (hgr : Grow A A') (hv : VRel β' (val V j) v)
    (hm : ∀ i b, (memX M ops.size p).get i = some b → β' i = none ∨ A'.get i = some b ∨ ((memX M ops.size p).get i = some b ∧ A.get i = none ∧ (i < A.next ∨ A'.next ≤ i))) :
    Inv P ops E M V bef N β0 w0 d0 (S.setIfInBounds j true) (a.put o.dst v) w' β' p := by
  have hle := hpost.ext hFA
  refine I.next hcall R T hN ho hj hn hr hA hrange hchain hpost hFA hgr hv I.hp (fun i h1 h2 => .inl (I.lo i h1 h2)) I.hi ?_ ?_ hm
  · intro i h1 h2 h3
    rcases h3 with h3 | rfl
    · exact I.hi2 i h1 h2 h3
    · exact hw h2
  · intro i h1 h2
    refine I.low i h1 ?_
    cases hb : β i with
    | none => rfl
    | some L => rw [hle i L hb] at h2; cases h2

/-- An operation that leaves the memory's outline. -/
theorem Inv.next1 (I : Inv P ops E M V bef N β0 w0 d0 S a w β p) (hcall : CallGrow call) (R : RegOk ops bef) (T : Walk P call ops E M V) (hN : ∀ (i : Nat) (o : Oper) (t : Nat), ops[i]? = some o → o.dst = some t → t < N)
    (hfr : ∀ i, (M 0).next ≤ i → (M 0).get i = none)
    {j : Nat} {o : Oper} (ho : ops[j]? = some o) (hj : j < ops.size) (hn : ¬ In S j) (hr : ∀ e ∈ o.after.toList, Region.binds .any e = true → In S e.on) (hw : ¬ Wr ops V j)
    {β' : Ren} {w' : World} {v : Value} (hpost : Post P β (M p) w (M p) β' w') (hv : VRel β' (val V j) v) :
    Inv P ops E M V bef N β0 w0 d0 (S.setIfInBounds j true) (a.put o.dst v) w' β' p := by
  refine I.next0 hcall R T hN ho hj hn hr hw (fun i b h => (T.sub hcall hfr I.hp h).2) (.inr rfl) ?_ hpost (fun i h1 h2 => by omega) (Grow.refl _) hv ?_
  · intro i b h1 h2 h3
    obtain ⟨b0, h4, h5⟩ := (T.grow hcall p I.hp 0 (by omega)).dom i b h1 h2
    exact ⟨b0, h4, h5 h3⟩
  · intro i b h
    by_cases hi : i < (M p).next
    · refine .inr (.inl ?_)
      simp only [memX] at h
      rwa [if_pos hi] at h
    · exact .inr (.inr ⟨h, T.fresh hcall hfr I.hp i (by omega), .inr (by omega)⟩)

theorem Inv.step (I : Inv P ops E M V bef N β0 w0 d0 S a w β p) (hcall : CallOk P call) (R : RegOk ops bef) (T : Walk P call ops E M V) (hN : ∀ (i : Nat) (o : Oper) (t : Nat), ops[i]? = some o → o.dst = some t → t < N)
    (hfr : ∀ i, (M 0).next ≤ i → (M 0).get i = none) (C : Calm P ops E M V bef) {Q : Exit → Act → World → Prop} {j : Nat} (hready : j ∈ Region.ready .any ops S) :
    wpOp P ops Q j (fun a w => ∃ β p, Inv P ops E M V bef N β0 w0 d0 (S.setIfInBounds j true) a w β p) a w := by
  obtain ⟨o, ho, hj, hn, hr⟩ := mem_ready hready I.sz
  have hE := I.erel R T ho hj hn hr
  have hW := I.now hcall.gr T hfr
  have hg := guard_wanted hE (seen_guard.trans (T.guard j o ho))
  have hmono : ∀ a b, a ≤ b → b ≤ ops.size → (M a).next ≤ (M b).next := fun a b h1 h2 => (T.grow hcall.gr b h2 a h1).next
  simp only [wpOp, ho]
  cases hv : V j with
  | none =>
    rw [hv] at hg
    rw [if_neg (by rw [hg]; simp)]
    have hw : ¬ Wr ops V j := fun ⟨o', _, _, h3⟩ => by rw [hv] at h3; cases h3
    refine ⟨β, p, I.next1 hcall.gr R T hN hfr ho hj hn hr hw (Post.refl hW) ?_⟩
    simp only [val, hv, Option.getD_none]
    exact undef_rel
  | some x =>
    rw [hv] at hg
    rw [if_pos (by rw [hg]; rfl)]
    refine .inl ?_
    have hs := T.step j o x ho hv
    have hval : val V j = x := by simp [val, hv]
    by_cases hwr : writes o.op = true
    · -- the next writer
      have hWj : Wr ops V j := ⟨o, ho, hwr, by simp [hv]⟩
      have hpj : p = j := by
        rcases Nat.lt_trichotomy p j with h | h | h
        · obtain ⟨op, h1, h2, h3⟩ := I.hi (by omega)
          exact absurd (I.ahead R ho hr p (R.wr p j op o h h1 ho h2 hwr)) (I.hi2 p (Nat.le_refl _) ⟨op, h1, h2, h3⟩)
        · exact h
        · exact absurd (I.lo j h hWj) hn
      subst hpj
      have hFj : Free β (M p) (M (p + 1)) := I.un p o ho hn
      refine stepOp_wp hcall hE hW hFj (seen_step.trans hs) ?_
      intro v w' β' hvr hpost
      obtain ⟨p', h1, h2, h3, h4⟩ := next_writer (Wr ops V) ops.size _ (p + 1) rfl (by omega)
      have hle := hpost.ext hFj
      have hq := T.quiet hcall.gr (p + 1) p' h1 h2 h3
      refine ⟨β', p', I.next hcall.gr R T hN ho hj hn hr (fun i b h => (T.sub hcall.gr hfr I.hp h).2) (.inl ⟨rfl, rfl⟩) ?_ hpost hFj (T.grow hcall.gr (p + 1) (by omega) p (by omega)) (by rw [hval]; exact hvr) h2 ?_ h4 ?_ ?_ ?_⟩
      · intro i b h1 h2 h3
        obtain ⟨b0, h4, h5⟩ := (T.grow hcall.gr p I.hp 0 (by omega)).dom i b h1 h2
        exact ⟨b0, h4, h5 h3⟩
      · intro i h5 h6
        by_cases h7 : i < p
        · exact .inl (I.lo i h7 h6)
        · by_cases h8 : i = p
          · exact .inr h8
          · exact absurd h6 (h3 i (by omega) h5)
      · intro i h5 h6 h7
        rcases h7 with h7 | h7
        · exact I.hi2 i (by omega) h6 h7
        · omega
      · intro i h5 h6
        have hbi : β i = none := by
          cases hb : β i with
          | none => rfl
          | some L => rw [hle i L hb] at h6; cases h6
        by_cases h7 : i < (M (p + 1)).next
        · rw [(hq i h5).1 h7]
          by_cases h8 : i < (M p).next
          · rw [hpost.low i h8 hbi]
            exact I.low i h8 hbi
          · rw [initAt_at hmono (by omega) h7 ops.size (by omega) (Nat.le_refl _)]
        · exact (hq i h5).2 (by omega)
      · intro i b h5
        have hXp : ∀ {i}, (M p).next ≤ i → (memX M ops.size p).get i = initAt M ops.size i := fun {i} h => by
          simp only [memX]; rw [if_neg (by omega)]
        by_cases h6 : i < (M p').next
        · have h5' : (M p').get i = some b := by
            simp only [memX] at h5; rwa [if_pos h6] at h5
          by_cases h7 : i < (M (p + 1)).next
          · rw [(hq i h6).1 h7] at h5'
            exact .inr (.inl h5')
          · have h8 := hmono p (p + 1) (by omega) (by omega)
            rw [(hq i h6).2 (by omega)] at h5'
            refine .inr (.inr ⟨by rw [hXp (by omega)]; exact h5', T.fresh hcall.gr hfr I.hp i (by omega), .inr (by omega)⟩)
        · have h5' : initAt M ops.size i = some b := by
            simp only [memX] at h5; rwa [if_neg h6] at h5
          have h8 := hmono p (p + 1) (by omega) (by omega)
          have h9 := hmono (p + 1) p' (by omega) (by omega)
          refine .inr (.inr ⟨by rw [hXp (by omega)]; exact h5', T.fresh hcall.gr hfr I.hp i (by omega), .inr (by omega)⟩)
    · have hw : ¬ Wr ops V j := fun ⟨o', h1, h2, h3⟩ => by
        rw [ho] at h1
        obtain rfl := Option.some.inj h1
        exact hwr h2
      by_cases hrd : readsMemP P o.op = true
      · -- what reads
        obtain ⟨m2, h2⟩ := C j o x p ho hv hrd I.hp I.hi (by
          intro q hq hqj
          refine ⟨fun h3 h4 => hn (I.cl q (I.lo q h3 hq) j h4), fun h3 h4 => I.hi2 q h3 hq (I.ahead R ho hr q h4)⟩)
        obtain rfl := evOp_reads hrd h2
        rw [← reads_step (call := call) hrd] at h2
        refine stepOp_wp hcall hE hW (fun i h1 h2 => by omega) (seen_step.trans h2) ?_
        intro v w' β' hvr hpost
        exact ⟨β', p, I.next1 hcall.gr R T hN hfr ho hj hn hr hw hpost (by rw [hval]; exact hvr)⟩
      · cases stepOp_idle (by simpa using hwr) (by simpa using hrd) hs with
        | same h k =>
          refine stepOp_wp hcall hE hW (fun i h1 h2 => by omega) (seen_step.trans (k (M p))) ?_
          intro v w' β' hvr hpost
          exact ⟨β', p, I.next1 hcall.gr R T hN hfr ho hj hn hr hw hpost (by rw [hval]; exact hvr)⟩
        | new b h k =>
          have hnx : (M (j + 1)).next = (M j).next + 1 := by rw [h]; rfl
          have hbj : initAt M ops.size (M j).next = some b := by
            rw [initAt_at hmono (Nat.le_refl _) (by omega) ops.size (by omega) (Nat.le_refl _), h]
            simp [Mem.new]
          have hXj : (memX M ops.size p).get (M j).next = some b := by
            simp only [memX]
            split
            · rename_i hlt
              rw [I.low _ hlt (I.un j o ho hn _ (Nat.le_refl _) (by omega)), hbj]
            · exact hbj
          let A : Mem := { get := fun i => if i < (M j).next then (memX M ops.size p).get i else none, next := (M j).next }
          have hAget : ∀ i b, A.get i = some b → i < (M j).next ∧ (memX M ops.size p).get i = some b := by
            intro i b hi
            simp only [A] at hi
            split at hi
            · exact ⟨by assumption, hi⟩
            · cases hi
          have hWA : WRel P β A w := I.part hcall.gr T hfr (k := j) (by omega) hAget
          have hFA : Free β A (A.new b) := fun i h1 h2 => I.un j o ho hn i h1 (by simp only [Mem.new, A] at h2; omega)
          refine stepOp_wp hcall hE hWA hFA (seen_step.trans (k A rfl)) ?_
          intro v w' β' hvr hpost
          refine ⟨β', p, I.next0 hcall.gr R T hN ho hj hn hr hw (fun i b h => (hAget i b h).2) (.inl ⟨rfl, by simp [Mem.new, A, hnx]⟩) ?_ hpost hFA (Grow.new _ _) (by rw [hval]; exact hvr) ?_⟩
          · intro i b1 h1 h2 h3
            have h4 := (hAget i b1 h2).2
            have h5 := hmono 0 p (by omega) I.hp
            simp only [memX] at h4
            rw [if_pos (by omega)] at h4
            obtain ⟨b0, h6, h7⟩ := (T.grow hcall.gr p I.hp 0 (by omega)).dom i b1 h1 h4
            exact ⟨b0, h6, h7 h3⟩
          · intro i b1 h1
            rcases Nat.lt_trichotomy i (M j).next with h2 | h2 | h2
            · refine .inr (.inl ?_)
              have h3 : A.next = (M j).next := rfl
              simp only [Mem.new]
              rw [if_neg (by omega)]
              simp only [A]
              rw [if_pos h2]
              exact h1
            · refine .inr (.inl ?_)
              subst h2
              rw [hXj] at h1
              obtain rfl := Option.some.inj h1
              simp [Mem.new, A]
            · refine .inr (.inr ⟨h1, ?_, .inr ?_⟩)
              · simp only [A]
                rw [if_neg (by omega)]
              · simp only [Mem.new, A]
                omega
end
end Go.AM

namespace Go.AM
open Go

section
variable {P : Program} {call : CallF} {ops : Array Oper} {E : Nat → Env} {M : Nat → Mem} {V : Nat → Option Value} {bef : Array Nat} {N : Nat}
variable {β0 : Ren} {w0 : World} {d0 : List Deferred} {S : Array Bool} {a : Act} {w : World} {β : Ren} {p : Nat}

theorem all_listed (R : RegOk ops bef) (hs : S.size = ops.size) (h : Region.ready .any ops S = []) : ∀ (i : Nat), i < ops.size → In S i := by
  intro i
  induction i using Nat.strongRecOn with
  | _ i ih =>
    intro hi
    apply Classical.byContradiction
    intro hn
    have ho : ops[i]? = some ops[i] := Array.getElem?_eq_getElem hi
    have : i ∈ Region.ready .any ops S := by
      unfold Region.ready
      rw [List.mem_filter]
      refine ⟨by simpa using hi, ?_⟩
      rw [ho]
      simp only [Bool.and_eq_true, Option.map_some, Option.getD_some]
      refine ⟨?_, ?_⟩
      · unfold In at hn
        simp only [Array.getD_eq_getD_getElem?] at hn ⊢
        rw [Array.getElem?_eq_getElem (by omega)] at hn ⊢
        simpa using hn
      · rw [Array.all_eq_true_iff_forall_mem]
        intro e he
        cases hb : Region.binds .any e with
        | false => rfl
        | true =>
          have hlt := R.edge i _ ho e (by simpa using he) hb
          have := ih e.on hlt (by omega)
          simpa [In] using this
    rw [h] at this
    cases this

def left (S : Array Bool) : Nat := S.toList.countP (· == false)

theorem left_zero (h : left S = 0) : ∀ i, i < S.size → In S i := by
  intro i hi
  unfold left at h
  rw [List.countP_eq_zero] at h
  have hm : S[i] ∈ S.toList := by simp
  have := h _ hm
  unfold In
  simp only [Array.getD_eq_getD_getElem?, Array.getElem?_eq_getElem hi, Option.getD_some]
  cases hq : S[i] with
  | true => rfl
  | false => rw [hq] at this; simp at this

theorem left_set {j : Nat} (hj : j < S.size) (hn : ¬ In S j) : left (S.setIfInBounds j true) < left S := by
  have hf : S[j] = false := by
    unfold In at hn
    simp only [Array.getD_eq_getD_getElem?, Array.getElem?_eq_getElem hj, Option.getD_some] at hn
    simpa using hn
  unfold left
  have hj' : j < S.toList.length := by simpa using hj
  have h1 : (S.setIfInBounds j true).toList = S.toList.set j true := by simp
  rw [h1, List.countP_set hj']
  have h2 : S.toList[j] = false := by simpa using hf
  have h3 : 0 < S.toList.countP (· == false) := by
    rw [List.countP_pos_iff]
    exact ⟨false, by rw [← h2]; simp, rfl⟩
  rw [h2]
  have h4 : (true == false) = false := rfl
  have h5 : (false == false) = true := rfl
  simp only [h4, h5, if_true, Bool.false_eq_true, if_false]
  omega

theorem ready_nil (hs : S.size = ops.size) (h : ∀ i, i < ops.size → In S i) : Region.ready .any ops S = [] := by
  unfold Region.ready
  rw [List.filter_eq_nil_iff]
  intro i hi
  have hi' : i < ops.size := by simpa using hi
  have := h i hi'
  unfold In at this
  simp only [Array.getD_eq_getD_getElem?] at this ⊢
  rw [Array.getElem?_eq_getElem (by omega)] at this ⊢
  simp at this
  simp [this]

theorem Inv.done (I : Inv P ops E M V bef N β0 w0 d0 S a w β p) (R : RegOk ops bef) (hcall : CallGrow call) (T : Walk P call ops E M V) (hfr : ∀ i, (M 0).next ≤ i → (M 0).get i = none) (hall : ∀ i, i < ops.size → In S i) :
    ERel β N (E ops.size) a ∧ a.defers = d0 ∧ Post P β0 (M 0) w0 (M ops.size) β w := by
  have hp : p = ops.size := by
    rcases Nat.lt_or_ge p ops.size with h | h
    · exact absurd (hall p h) (I.hi2 p (Nat.le_refl _) (I.hi h))
    · have := I.hp; omega
  subst hp
  have hmono : ∀ a b, a ≤ b → b ≤ ops.size → (M a).next ≤ (M b).next := fun a b h1 h2 => (T.grow hcall b h2 a h1).next
  refine ⟨⟨I.asz, fun t x h => I.env t x ?_⟩, I.dfs, ⟨I.now hcall T hfr, I.frame, hmono 0 _ (by omega) (Nat.le_refl _), I.out, ?_, ?_, ?_⟩⟩
  · rcases T.envAt R t ops.size (Nat.le_refl _) x h with ⟨i, o, h1, h2, h3, h4⟩ | ⟨h1, h2⟩
    · exact .inl ⟨i, o, hall i h1, h2, h3, h4⟩
    · refine .inr ⟨fun i o hi h3 => ?_, h2⟩
      have : i < ops.size := by
        rcases Nat.lt_or_ge i ops.size with h | h
        · exact h
        · rw [Array.getElem?_eq_none h] at h3; cases h3
      exact h1 i o this h3
  · intro i h1 h2
    have := hmono 0 ops.size (by omega) (Nat.le_refl _)
    rw [I.low i (by omega) (by rw [I.out i (.inl h1)]; exact h2)]
    exact initAt_low' hmono h1
  · intro i b h1 h2 h3
    obtain ⟨b0, h4, h5⟩ := (T.grow hcall ops.size (Nat.le_refl _) 0 (by omega)).dom i b h1 h2
    exact ⟨b0, h4, h5 h3⟩
  · exact I.far
where
  initAt_low' {i : Nat} (hm : ∀ a b, a ≤ b → b ≤ ops.size → (M a).next ≤ (M b).next) (hi : i < (M 0).next) : initAt M ops.size i = (M 0).get i := by
    have key : ∀ k, k ≤ ops.size → initAt M k i = (M 0).get i := by
      intro k
      induction k with
      | zero => intro _; simp [initAt, hi]
      | succ k ih =>
        intro hk
        have := hm 0 k (by omega) (by omega)
        simp only [initAt]
        rw [if_pos (by omega), ih (by omega)]
    exact key _ (Nat.le_refl _)

theorem Inv.start (hcall : CallGrow call) (T : Walk P call ops E M V) (hE : ERel β0 N (E 0) a) (W : WRel P β0 (M 0) w0) (hF : Free β0 (M 0) (M ops.size)) (hd : a.defers = d0) :
    ∃ p, Inv P ops E M V bef N β0 w0 d0 (Array.replicate ops.size false) a w0.drew β0 p := by
  obtain ⟨p, _, h2, h3, h4⟩ := next_writer (Wr ops V) ops.size _ 0 rfl (by omega)
  have hmono : ∀ a b, a ≤ b → b ≤ ops.size → (M a).next ≤ (M b).next := fun a b h1 h2 => (T.grow hcall b h2 a h1).next
  have hno : ∀ i, ¬ In (Array.replicate ops.size false) i := by
    intro i h
    unfold In at h
    simp only [Array.getD_eq_getD_getElem?, Array.getElem?_replicate] at h
    split at h <;> simp at h
  have hq := T.quiet hcall 0 p (by omega) h2 (fun q _ h => h3 q (by omega) h)
  have hlow : ∀ i, i < (M p).next → (M p).get i = initAt M ops.size i := by
    intro i hi
    by_cases h : i < (M 0).next
    · rw [(hq i hi).1 h, Inv.done.initAt_low' hmono h]
    · exact (hq i hi).2 (by omega)
  have hX : ∀ i b L, (memX M ops.size p).get i = some b → β0 i = some L → (M 0).get i = some b := by
    intro i b L h5 h6
    have h0 := hmono 0 p (by omega) h2
    have h1 := hmono p ops.size h2 (Nat.le_refl _)
    have hi : i < (M 0).next := by
      rcases Nat.lt_or_ge i (M 0).next with h | h
      · exact h
      · rcases Nat.lt_or_ge i (M ops.size).next with k | k
        · rw [hF i h k] at h6; cases h6
        · simp only [memX] at h5
          rw [if_neg (by omega), initAt_out hmono k _ (Nat.le_refl _)] at h5
          cases h5
    simp only [memX] at h5
    rw [if_pos (by omega), (hq i (by omega)).1 hi] at h5
    exact h5
  refine ⟨p, h2, fun i h5 h6 => absurd h6 (h3 i (by omega) h5), h4, fun i _ _ h => hno i h, fun j h => absurd h (hno j), by simp, ?_, hE.size, hd, ?_, fun i h5 _ => hlow i h5, fun i _ => rfl, ?_, ?_, ⟨rfl, rfl, rfl, Nat.le_refl _, fun _ _ _ => rfl⟩⟩
  · intro t x hD
    rcases hD with ⟨i, o, h5, _⟩ | ⟨_, h5⟩
    · exact absurd h5 (hno i)
    · exact hE.has t x h5
  · refine ⟨fun i b L h5 h6 => W.blk i b L (hX i b L h5 h6) h6, fun i j bi bj L L' h5 h6 h7 h8 e => W.inj i j bi bj L L' (hX i bi L h5 h7) (hX j bj L' h6 h8) h7 h8 e, fun i b L h5 h6 => W.dom i b L (hX i b L h5 h6) h6, fun i hi => ?_⟩
    simp only [memX] at hi ⊢
    have h1 := hmono p ops.size h2 (Nat.le_refl _)
    rw [if_neg (by omega)]
    exact initAt_out hmono hi _ (Nat.le_refl _)
  · intro j o ho _ i h5 h6
    have hj : j < ops.size := by
      rcases Nat.lt_or_ge j ops.size with h | h
      · exact h
      · rw [Array.getElem?_eq_none h] at ho; cases ho
    have h7 := hmono 0 j (by omega) (by omega)
    have h8 := hmono (j + 1) ops.size (by omega) (Nat.le_refl _)
    exact hF i (by omega) (by omega)
  · intro i L h5 h6 h7
    rw [hF i h5 h6] at h7
    cases h7

theorem any_ok (hcall : CallOk P call) (R : RegOk ops bef) (T : Walk P call ops E M V) (hN : ∀ (i : Nat) (o : Oper) (t : Nat), ops[i]? = some o → o.dst = some t → t < N)
    (hfr : ∀ i, (M 0).next ≤ i → (M 0).get i = none) (C : Calm P ops E M V bef) {Q : Exit → Act → World → Prop}
    (K : ∀ a' w' β', ERel β' N (E ops.size) a' → a'.defers = d0 → Post P β0 (M 0) w0 (M ops.size) β' w' → Q .normal a' w') :
    ∀ (fuel : Nat) (S : Array Bool) (a : Act) (w : World), left S ≤ fuel → (∃ β p, Inv P ops E M V bef N β0 w0 d0 S a w β p) → wpAny P .any ops Q fuel S a w
  | 0, S, a, w, hl, ⟨β, p, I⟩ => by
    have hall : ∀ i, i < ops.size → In S i := fun i hi => left_zero (by omega) i (by rw [I.sz]; exact hi)
    obtain ⟨h1, h2, h3⟩ := I.done R hcall.gr T hfr hall
    exact ⟨ready_nil I.sz hall, K a w β h1 h2 h3⟩
  | fuel + 1, S, a, w, hl, ⟨β, p, I⟩ => by
    refine ⟨fun hnil => ?_, fun i hi => ?_⟩
    · obtain ⟨h1, h2, h3⟩ := I.done R hcall.gr T hfr (all_listed R I.sz hnil)
      exact K a w β h1 h2 h3
    · obtain ⟨o, ho, hj, hn, hr⟩ := mem_ready hi I.sz
      have := left_set (S := S) (j := i) (by rw [I.sz]; exact hj) hn
      exact wpOp_mono (fun a' w' h => any_ok hcall R T hN hfr C K fuel _ a' w' (by omega) h) (I.step hcall R T hN hfr C hi)

theorem region_any {id : Nat} (hm : P.follows .mixedOrders = true) (hcall : CallOk P call) (R : RegOk ops bef) (T : Walk P call ops E M V) (hN : ∀ (i : Nat) (o : Oper) (t : Nat), ops[i]? = some o → o.dst = some t → t < N)
    (C : Calm P ops E M V bef) {Q : Exit → Act → World → Prop} (hE : ERel β0 N (E 0) a) (W : WRel P β0 (M 0) w) (hF : Free β0 (M 0) (M ops.size))
    (K : ∀ a' w' β', ERel β' N (E ops.size) a' → a'.defers = a.defers → Post P β0 (M 0) w (M ops.size) β' w' → Q .normal a' w') : (Code.region id ops true).wp P Q a w := by
  refine wp_region_any hm ?_
  obtain ⟨p, I⟩ := Inv.start (bef := bef) hcall.gr T hE W hF rfl
  refine any_ok (w0 := w) hcall R T hN W.fresh C K ops.size _ a _ ?_ ⟨β0, p, I⟩
  unfold left
  refine Nat.le_trans List.countP_le_length ?_
  simp
end

/-- What the trace tells. -/
theorem traceOps_spec {P : Program} {call : CallF} {ops : Array Oper} : ∀ {l : List Nat} {env : Env} {m : Mem} {tr : Tr} {e : Env} {f : Mem}, traceOps P call ops l env m = some (tr, e, f) →
    ∃ (E : Nat → Env) (M : Nat → Mem) (V : Nat → Option Value), E 0 = env ∧ M 0 = m ∧ E l.length = e ∧ M l.length = f ∧ tr.length = l.length ∧ (∀ k, k < l.length → tr[k]? = some (E k, M k, V k)) ∧
      ∀ (k i : Nat), l[k]? = some i → ∃ o, ops[i]? = some o ∧ guardOf ops (E k) o = some (V k).isSome ∧ (∀ v, V k = some v → stepOp P call (E k) o.op (M k) = some (v, M (k + 1))) ∧
        (V k = none → M (k + 1) = M k) ∧ E (k + 1) = (E k).put o.dst ((V k).getD undef)
  | [], env, m, tr, e, f, h => by
    simp only [traceOps, Option.some.injEq, Prod.mk.injEq] at h
    obtain ⟨rfl, rfl, rfl⟩ := h
    exact ⟨fun _ => env, fun _ => m, fun _ => none, rfl, rfl, rfl, rfl, rfl, fun k h => by simp at h, fun k i h => by simp at h⟩
  | i :: r, env, m, tr, e, f, h => by
    simp only [traceOps] at h
    split at h
    · cases h
    · rename_i o ho
      split at h
      · rename_i hg
        split at h
        · rename_i v m' hs
          split at h
          · rename_i tr1 e1 f1 hr
            simp only [Option.some.injEq, Prod.mk.injEq] at h
            obtain ⟨rfl, rfl, rfl⟩ := h
            obtain ⟨E, M, V, h1, h2, h3, h4, h5, h6, h7⟩ := traceOps_spec hr
            refine ⟨fun k => match k with | 0 => env | k + 1 => E k, fun k => match k with | 0 => m | k + 1 => M k, fun k => match k with | 0 => some v | k + 1 => V k, rfl, rfl, h3, h4, by simp [h5], ?_, ?_⟩
            · intro k hk
              cases k with
              | zero => rfl
              | succ k => simpa using h6 k (by simpa using hk)
            · intro k q hq
              cases k with
              | zero =>
                obtain rfl : i = q := by simpa using hq
                refine ⟨o, ho, hg, ?_, fun h => (by simp at h), (by simpa using h1)⟩
                intro v' hv'
                obtain rfl := Option.some.inj hv'
                simpa [h2] using hs
              | succ k => exact h7 k q (by simpa using hq)
          · cases h
        · cases h
      · rename_i hg
        split at h
        · rename_i tr1 e1 f1 hr
          simp only [Option.some.injEq, Prod.mk.injEq] at h
          obtain ⟨rfl, rfl, rfl⟩ := h
          obtain ⟨E, M, V, h1, h2, h3, h4, h5, h6, h7⟩ := traceOps_spec hr
          refine ⟨fun k => match k with | 0 => env | k + 1 => E k, fun k => match k with | 0 => m | k + 1 => M k, fun k => match k with | 0 => none | k + 1 => V k, rfl, rfl, h3, h4, by simp [h5], ?_, ?_⟩
          · intro k hk
            cases k with
            | zero => rfl
            | succ k => simpa using h6 k (by simpa using hk)
          · intro k q hq
            cases k with
            | zero =>
              obtain rfl : i = q := by simpa using hq
              exact ⟨o, ho, hg, fun v' hv' => by simp at hv', fun _ => by simpa using h2, by simpa using h1⟩
            | succ k => exact h7 k q (by simpa using hq)
        · cases h
      · cases h
end Go.AM
