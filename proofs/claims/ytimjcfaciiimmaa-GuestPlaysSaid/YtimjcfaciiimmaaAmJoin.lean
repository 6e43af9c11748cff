/- Walks may be cut: what code comes to is monotone. -/
import Derived.Test.YtimjcfaciiimmaaAmShown
set_option linter.unusedSimpArgs false
set_option linter.unusedVariables false
namespace Go.AM
open Go
variable {P : Program}

theorem optV_mono {r : Option (Value × Mem)} {K K' : Kont} (h : ∀ v m, K.k v m → K'.k v m) (x : @optV r K) : @optV r K' := by
  unfold optV at x ⊢
  split at x
  · exact h _ _ x
  · exact x.elim
theorem guardV_mono {g : Option Bool} {K K' : KontB} (h : ∀ b, K.k b → K'.k b) (x : @guardV g K) : @guardV g K' := by
  unfold guardV at x ⊢
  split at x
  · exact h _ x
  · exact x.elim
theorem condV_mono {r : Option Value} {K K' : KontB} (h : ∀ b, K.k b → K'.k b) (x : @condV r K) : @condV r K' := by
  unfold condV at x ⊢
  split at x
  · exact h _ x
  · exact x.elim
theorem wps_mono {env : Env} {o : Op} {m : Mem} {K K' : Kont} (h : ∀ v m, K.k v m → K'.k v m) (x : @wps P env o m K) : @wps P env o m K' := by
  rw [wps_open] at x ⊢
  split at x
  · split at x
    · exact x.elim
    · split at x
      · exact optV_mono h x
      · split at x
        · exact ⟨x.1, Ret.mono x.2 h⟩
        · exact x.elim
      · exact x.elim
  · exact optV_mono h x
theorem wpo_mono {ops : Array Oper} {K K' : KontE} (h : ∀ e m, K.k e m → K'.k e m) : ∀ {l : List Nat} {env : Env} {m : Mem}, @wpo P ops l K env m → @wpo P ops l K' env m
  | [], env, m, x => by
    rw [wpo_nil] at x ⊢
    exact h _ _ x
  | i :: r, env, m, x => by
    rw [wpo_cons] at x ⊢
    split at x
    · exact x.elim
    · refine guardV_mono (fun b y => ?_) x
      cases b with
      | true => exact wps_mono (fun v m1 z => wpo_mono h z) y
      | false => exact wpo_mono h y
theorem wpu_mono {ops : Array Oper} {js : List Nat} {S : Nat → Prop} {e0 : Nat} {K K' : KontE} (h : ∀ e m, K.k e m → K'.k e m) : ∀ {l : List Nat} {env : Env} {m : Mem}, @wpu P ops js S e0 l K env m → @wpu P ops js S e0 l K' env m
  | [], env, m, x => by
    rw [wpu_nil] at x ⊢
    exact h _ _ x
  | i :: r, env, m, x => by
    rw [wpu_cons] at x ⊢
    split at x
    · exact x.elim
    · refine guardV_mono (fun b y => ?_) x
      cases b with
      | true =>
        refine ⟨y.1, wps_mono ?_ y.2⟩
        intro v m1 z
        exact ⟨z.1, z.2.1, wpu_mono h z.2.2⟩
      | false => exact wpu_mono h y
theorem wpv_mono {ops : Array Oper} {lo : List (Nat × Nat)} {e0 : Nat} {K K' : KontE} (h : ∀ e m, K.k e m → K'.k e m) : ∀ {l W : List Nat} {H : List Mem} {S : Nat → Prop} {env : Env} {m : Mem}, @wpv P ops lo e0 l W H S K env m → @wpv P ops lo e0 l W H S K' env m
  | [], W, H, S, env, m, x => by
    rw [wpv_nil] at x ⊢
    exact h _ _ x
  | i :: r, W, H, S, env, m, x => by
    rw [wpv_cons] at x ⊢
    split at x
    · exact x.elim
    · refine guardV_mono (fun b y => ?_) x
      cases b with
      | true =>
        simp only at y ⊢
        split at y
        · rename_i hn
          refine wps_mono ?_ y
          intro v m1 z
          exact ⟨z.1, wpv_mono h z.2⟩
        · refine ⟨y.1, y.2.1, wps_mono ?_ y.2.2⟩
          intro v m1 z
          exact ⟨z.1, z.2.1, wpv_mono h z.2.2⟩
      | false => exact wpv_mono h y
theorem wpc_mono {us : Us} : ∀ {c : Code} {K K' : KontC} {env : Env} {m : Mem}, (∀ x e m, K.k x e m → K'.k x e m) → @wpc P us c K env m → @wpc P us c K' env m
  | .skip, K, K', env, m, h, x => by rw [wpc_skip] at x ⊢; exact h _ _ _ x
  | .label _, K, K', env, m, h, x => by rw [wpc_label] at x ⊢; exact h _ _ _ x
  | .exit _, K, K', env, m, h, x => by rw [wpc_exit] at x ⊢; exact h _ _ _ x
  | .ret, K, K', env, m, h, x => by rw [wpc_ret] at x ⊢; exact h _ _ _ x
  | .region id ops d, K, K', env, m, h, x => by
    rw [wpc_region] at x ⊢
    split at x
    · exact wpo_mono (fun e m y => h _ _ _ y) x
    · rcases x with ⟨S, e, hs, y⟩ | ⟨lo, e, hl, hs, y⟩
      · exact .inl ⟨S, e, hs, wpu_mono (fun e m y => h _ _ _ y) y⟩
      · exact .inr ⟨lo, e, hl, hs, wpv_mono (fun e m y => h _ _ _ y) y⟩
  | .seq a b, K, K', env, m, h, x => by
    rw [wpc_seq] at x ⊢
    refine wpc_mono (c := a) (fun q e m y => ?_) x
    cases q with
    | normal => exact wpc_mono (c := b) h y
    | exit i => exact h _ _ _ y
    | ret => exact h _ _ _ y
  | .cond c a b, K, K', env, m, h, x => by
    rw [wpc_cond] at x ⊢
    refine condV_mono (fun q y => ?_) x
    cases q with
    | true => exact wpc_mono (c := a) h y
    | false => exact wpc_mono (c := b) h y
  | .block id a, K, K', env, m, h, x => by
    rw [wpc_block] at x ⊢
    refine wpc_mono (c := a) (fun q e m y => ?_) x
    cases q with
    | normal => exact h _ _ _ y
    | exit i =>
      simp only at y ⊢
      split
      · rename_i hi
        rw [if_pos hi] at y
        exact h _ _ _ y
      · rename_i hi
        rw [if_neg hi] at y
        exact h _ _ _ y
    | ret => exact h _ _ _ y
  | .scope a, K, K', env, m, h, x => by rw [wpc_scope] at x ⊢; exact wpc_mono (c := a) h x
  | .loop a, K, K', env, m, h, x => by rw [wpc_loop] at x ⊢; exact CW.mono x h
  | .rangeFunc _ _ _ _, K, K', env, m, h, x => by rw [wpc_eq] at x ⊢; exact CW.mono x h
  | .goto _, K, K', env, m, h, x => by rw [wpc_eq] at x ⊢; exact CW.mono x h
  | .refuse _, K, K', env, m, h, x => by rw [wpc_eq] at x ⊢; exact CW.mono x h

/-- A walk is cut behind a piece of code: R tells what it comes to. -/
theorem wpc_cut {us : Us} {c : Code} {K : KontC} {env : Env} {m : Mem} (R : Env → Mem → Prop) (h1 : @wpc P us c ⟨fun x e m' => x = .normal ∧ R e m'⟩ env m) (h2 : ∀ e m', R e m' → K.k .normal e m') : @wpc P us c K env m :=
  wpc_mono (fun x e m' y => by obtain ⟨rfl, y⟩ := y; exact h2 _ _ y) h1
/-- .. within operations. -/
theorem wpo_cut {ops : Array Oper} {l : List Nat} {K : KontE} {env : Env} {m : Mem} (R : Env → Mem → Prop) (h1 : @wpo P ops l ⟨R⟩ env m) (h2 : ∀ e m', R e m' → K.k e m') : @wpo P ops l K env m := wpo_mono (K := ⟨R⟩) h2 h1
/-- .. at a guard. -/
theorem guard_cut {g : Option Bool} {ops : Array Oper} {r r' : List Nat} {env env' : Env} {op : Op} {dst : Nat} {m m' : Mem} {K : KontE} (R : Env → Mem → Prop)
    (h1 : @guardV g ⟨fun b => match b with
      | true => @wps P env op m ⟨fun v m1 => @wpo P ops r ⟨R⟩ (env.put dst v) m1⟩
      | false => @wpo P ops r' ⟨R⟩ env' m'⟩) (h2 : ∀ e m', R e m' → K.k e m') :
    @guardV g ⟨fun b => match b with
      | true => @wps P env op m ⟨fun v m1 => @wpo P ops r K (env.put dst v) m1⟩
      | false => @wpo P ops r' K env' m'⟩ := by
  refine guardV_mono (fun b y => ?_) h1
  cases b with
  | true => exact wps_mono (fun v m1 z => wpo_mono (K := ⟨R⟩) h2 z) y
  | false => exact wpo_mono (K := ⟨R⟩) h2 y
/-- .. at a condition. -/
theorem cond_cut {us : Us} {g : Option Value} {c d : Code} {env env' : Env} {m m1 : Mem} {K : KontC} (R : Env → Mem → Prop)
    (h1 : @condV g ⟨fun b => match b with
      | true => @wpc P us c ⟨fun x e m' => x = .normal ∧ R e m'⟩ env m
      | false => @wpc P us d ⟨fun x e m' => x = .normal ∧ R e m'⟩ env' m1⟩) (h2 : ∀ e m', R e m' → K.k .normal e m') :
    @condV g ⟨fun b => match b with
      | true => @wpc P us c K env m
      | false => @wpc P us d K env' m1⟩ := by
  refine condV_mono (fun b y => ?_) h1
  cases b with
  | true => exact wpc_cut R y h2
  | false => exact wpc_cut R y h2
/-- .. in a region whose order is open. -/
theorem loose_cut {ops : Array Oper} {js : List Nat} {K : KontE} {env : Env} {m : Mem} (R : Env → Mem → Prop) (h1 : @Loose P ops js ⟨R⟩ env m) (h2 : ∀ e m', R e m' → K.k e m') : @Loose P ops js K env m := by
  rcases h1 with ⟨S, e, hs, y⟩ | ⟨lo, e, hl, hs, y⟩
  · exact .inl ⟨S, e, hs, wpu_mono (K := ⟨R⟩) h2 y⟩
  · exact .inr ⟨lo, e, hl, hs, wpv_mono (K := ⟨R⟩) h2 y⟩
end Go.AM
