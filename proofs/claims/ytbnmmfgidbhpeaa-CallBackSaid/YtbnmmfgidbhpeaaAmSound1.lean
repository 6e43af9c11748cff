/- What the abstract machine does in one operation, the machine does: values alone. -/
import Derived.Test.YtbnmmfgidbhpeaaAmRel
set_option linter.unusedSimpArgs false
set_option linter.unusedVariables false
namespace Go.AM
open Go
variable {P : Program} {β : Ren} {m : Mem} {w : World}

def OpOk (P : Program) (β : Ren) (m : Mem) (w : World) (x : Value) (m' : Mem) (s : Result Next) : Prop :=
  ∃ v w' β', (s = .ok (.value v) w' ∨ s = .ok .skip w' ∧ v = undef) ∧ VRel β' x v ∧ Post P β m w m' β' w'

theorem OpOk.same {x v : Value} {s : Result Next} (W : WRel P β m w) (hs : s = .ok (.value v) w) (r : VRel β x v) : OpOk P β m w x m s :=
  ⟨v, w, β, .inl hs, r, Post.refl W⟩

theorem run_tsize {t : TypeId} {n : Nat} (h : tsize P t = some n) : (sizeOf t).run P w = .ok n w := by
  unfold tsize at h
  cases hi : P.info? t with
  | none => rw [hi] at h; cases h
  | some i =>
    rw [hi] at h
    obtain rfl := Option.some.inj h
    simp [sizeOf, typeInfo, hi]

theorem run_tzero {t : TypeId} {z : Value} (h : tzero P t = some z) : (zeroValue t).run P w = .ok z w := by
  unfold tzero at h
  cases hi : P.info? t with
  | none => rw [hi] at h; cases h
  | some i =>
    rw [hi] at h
    simp only [Option.bind_some] at h
    simp [zeroValue, typeInfo, hi, h]

theorem run_tinfo {t : TypeId} {b : Nat} (h : tbytes P t = some b) : ∃ i, (typeInfo t).run P w = .ok i w ∧ i.bytes = b := by
  unfold tbytes at h
  cases hi : P.info? t with
  | none => rw [hi] at h; cases h
  | some i =>
    rw [hi] at h
    obtain rfl := Option.some.inj h
    exact ⟨i, by simp [typeInfo, hi], rfl⟩

theorem run_agg {t : TypeId} {b : Bool} (h : aggOf P t = some b) : (isAgg t).run P w = .ok b w := by
  unfold aggOf at h
  cases hu : P.underlying t with
  | none => rw [hu] at h; cases h
  | some d =>
    rw [hu] at h
    cases d <;> (obtain rfl := Option.some.inj h; simp [isAgg, run_underlying hu])

theorem tsize_esz {t : TypeId} {n : Nat} (h : tsize P t = some n) : esz P t = n := by
  unfold tsize at h
  unfold esz
  rw [h]; rfl

/-- Arrays of cells, one by one. -/
structure ARel (β : Ren) (cs cs' : Array Value) : Prop where
  size : cs.size = cs'.size
  has : ∀ (i : Nat) (x x' : Value), cs[i]? = some x → cs'[i]? = some x' → VRel β x x'
  ok : ∀ (i : Nat) (x : Value), cs[i]? = some x → okCell x = true

theorem ARel.agg {cs cs' : Array Value} (h : ARel β cs cs') : VRel β (.agg cs) (.agg cs') := .agg h.size h.has h.ok

theorem ARel.of_agg {cs : Array Value} {v : Value} (h : VRel β (.agg cs) v) : ∃ cs', v = .agg cs' ∧ ARel β cs cs' := by
  cases h with
  | agg hs h hk => exact ⟨_, rfl, hs, h, hk⟩

theorem ARel.get {cs cs' : Array Value} (h : ARel β cs cs') {i : Nat} {x : Value} (hx : cs[i]? = some x) : ∃ v, cs'[i]? = some v ∧ VRel β x v := by
  have hi : i < cs.size := by
    rcases Nat.lt_or_ge i cs.size with h' | h'
    · exact h'
    · rw [Array.getElem?_eq_none h'] at hx; cases hx
  have hi' : i < cs'.size := h.size ▸ hi
  exact ⟨cs'[i], Array.getElem?_eq_getElem hi', h.has i x _ hx (Array.getElem?_eq_getElem hi')⟩

theorem ARel.one {x v : Value} (r : VRel β x v) (hk : okCell x = true) : ARel β #[x] #[v] := by
  refine ⟨rfl, fun i y y' h1 h2 => ?_, fun i y h1 => ?_⟩
  · cases i with
    | zero => simp at h1 h2; subst h1 h2; exact r
    | succ i => simp at h1
  · cases i with
    | zero => simp at h1; subst h1; exact hk
    | succ i => simp at h1

/-- A value's cells. -/
theorem VRel.cells {x v : Value} (h : VRel β x v) (hk : okVal x = true) : ARel β x.cells v.cells := by
  have h0 := h
  cases h with
  | agg hs h ho => exact ⟨hs, h, ho⟩
  | tuple => cases hk
  | _ => exact ARel.one h0 rfl

theorem ARel.set {cs cs' : Array Value} (h : ARel β cs cs') {x v : Value} (r : VRel β x v) (hk : okCell x = true) (j : Nat) : ARel β (cs.setIfInBounds j x) (cs'.setIfInBounds j v) := by
  refine ⟨by simp [h.size], fun i y y' h1 h2 => ?_, fun i y h1 => ?_⟩
  · rw [Array.getElem?_setIfInBounds] at h1 h2
    split at h1
    · rename_i e
      rw [if_pos e] at h2
      split at h1
      · rename_i e2
        rw [if_pos (by rw [← h.size]; exact e2)] at h2
        obtain rfl := Option.some.inj h1
        obtain rfl := Option.some.inj h2
        exact r
      · cases h1
    · rename_i e
      rw [if_neg e] at h2
      exact h.has i y y' h1 h2
  · rw [Array.getElem?_setIfInBounds] at h1
    split at h1
    · split at h1
      · obtain rfl := Option.some.inj h1; exact hk
      · cases h1
    · exact h.ok i y h1

theorem foldl_rel (off : Nat) : ∀ (xs vs : List Value) (k : Nat) (cs cs' : Array Value), xs.length = vs.length →
    (∀ (i : Nat) (x v : Value), xs[i]? = some x → vs[i]? = some v → VRel β x v) → (∀ (i : Nat) (x : Value), xs[i]? = some x → okCell x = true) → ARel β cs cs' →
    ARel β ((xs.zipIdx k).foldl (fun cs (c : Value × Nat) => cs.setIfInBounds (off + c.2) c.1) cs) ((vs.zipIdx k).foldl (fun cs (c : Value × Nat) => cs.setIfInBounds (off + c.2) c.1) cs')
  | [], [], _, _, _, _, _, _, h => h
  | x :: r, v :: s, k, cs, cs', hl, h, hk, hr => by
    simp only [List.zipIdx_cons, List.foldl_cons]
    exact foldl_rel off r s (k + 1) _ _ (by simpa using hl) (fun i y u h1 h2 => h (i + 1) y u (by simpa using h1) (by simpa using h2)) (fun i y h1 => hk (i + 1) y (by simpa using h1)) (hr.set (h 0 x v rfl rfl) (hk 0 x rfl) _)
  | [], _ :: _, _, _, _, hl, _, _, _ => by simp at hl
  | _ :: _, [], _, _, _, hl, _, _, _ => by simp at hl

theorem fill_rel (place : Nat → Option (Nat × Nat)) : ∀ {parts parts' : List (Nat × Value)} {cs cs' r : Array Value}, PRel β parts parts' → ARel β cs cs' →
    Instr.fill place cs parts = some r → ∃ r', Instr.fill place cs' parts' = some r' ∧ ARel β r r'
  | [], [], cs, cs', r, _, h, e => by obtain rfl := Option.some.inj e; exact ⟨cs', rfl, h⟩
  | (i, x) :: ps, (j, v) :: ps', cs, cs', r, hp, h, e => by
    obtain ⟨h1, h2, h3, h4⟩ := hp
    simp only at h1 h2 h3
    subst h1
    have hc := h2.cells h3
    simp only [Instr.fill] at e ⊢
    split at e
    · cases e
    · rename_i off size hpl
      rw [← hc.size, ← h.size]
      split at e
      · cases e
      · rename_i hn
        rw [if_neg hn]
        refine fill_rel place h4 ?_ e
        rw [← Array.foldl_toList, ← Array.foldl_toList, Array.toList_zipIdx, Array.toList_zipIdx]
        exact foldl_rel off x.cells.toList v.cells.toList 0 cs cs' (by simpa using hc.size)
          (fun i y u h1 h2 => hc.has i y u (by simpa using h1) (by simpa using h2)) (fun i y h1 => hc.ok i y (by simpa using h1)) h
  | [], _ :: _, _, _, _, hp, _, _ => hp.elim
  | _ :: _, [], _, _, _, hp, _, _ => hp.elim

theorem part_rel {t : TypeId} {cs cs' : Array Value} {off : Nat} {x : Value} (h : ARel β cs cs') (e : partOf P t cs off = some x) :
    ∃ v, (part t cs' off).run P w = .ok v w ∧ VRel β x v := by
  unfold partOf at e
  split at e
  · rename_i ha
    split at e
    · rename_i n hn
      obtain rfl := Option.some.inj e
      refine ⟨.agg (cs'.extract off (off + n)), by simp [part, run_agg ha, run_tsize hn], ARel.agg ⟨by simp [h.size], fun i y y' h1 h2 => ?_, fun i y h1 => ?_⟩⟩
      · rw [Array.getElem?_extract] at h1 h2
        split at h1
        · split at h2
          · exact h.has _ _ _ h1 h2
          · cases h2
        · cases h1
      · rw [Array.getElem?_extract] at h1
        split at h1
        · exact h.ok _ _ h1
        · cases h1
    · cases e
  · rename_i ha
    obtain ⟨v, hv, r⟩ := h.get e
    exact ⟨v, by simp [part, run_agg ha, hv], r⟩
  · cases e
end Go.AM
