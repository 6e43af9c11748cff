/- A region whose order is open: the invariant, one step. -/
import Derived.Test.YtbnmmfgidbhpeaaAmSound11
set_option linter.unusedSimpArgs false
set_option linter.unusedVariables false
namespace Go.AM
open Go

def In (S : Array Bool) (i : Nat) : Prop := S.getD i false = true

section
variable {P : Program} {call : CallF} {ops : Array Oper} {E : Nat → Env} {M : Nat → Mem} {V : Nat → Option Value} {bef : Array Nat} {N : Nat}

def val (V : Nat → Option Value) (i : Nat) : Value := (V i).getD undef

/-- What the temporaries are to hold. -/
def Due (ops : Array Oper) (E : Nat → Env) (V : Nat → Option Value) (S : Array Bool) (t : Nat) (x : Value) : Prop :=
  (∃ i o, In S i ∧ ops[i]? = some o ∧ o.dst = some t ∧ x = val V i) ∨ ((∀ i o, In S i → ops[i]? = some o → o.dst ≠ some t) ∧ E 0 t = some x)

structure Inv (P : Program) (ops : Array Oper) (E : Nat → Env) (M : Nat → Mem) (V : Nat → Option Value) (bef : Array Nat) (N : Nat) (β0 : Ren) (w0 : World) (d0 : List Deferred)
    (S : Array Bool) (a : Act) (w : World) (β : Ren) (p : Nat) : Prop where
  hp : p ≤ ops.size
  lo : ∀ i, i < p → Wr ops V i → In S i
  hi : p < ops.size → Wr ops V p
  hi2 : ∀ i, p ≤ i → Wr ops V i → ¬ In S i
  cl : ∀ j, In S j → ∀ i, Bef bef i j → In S i
  sz : S.size = ops.size
  env : ∀ t x, Due ops E V S t x → ∃ v, a.tmps[t]? = some v ∧ VRel β x v
  asz : a.tmps.size = N
  dfs : a.defers = d0
  rel : WRel P β (memX M ops.size p) w
  low : ∀ i, i < (M p).next → β i = none → (M p).get i = initAt M ops.size i
  out : ∀ i, (i < (M 0).next ∨ (M ops.size).next ≤ i) → β i = β0 i
  un : ∀ j o, ops[j]? = some o → ¬ In S j → ∀ i, (M j).next ≤ i → i < (M (j + 1)).next → β i = none
  far : ∀ i L, (M 0).next ≤ i → i < (M ops.size).next → β i = some L → w0.heap.size ≤ L.g ∨ ∃ k b Lk, (M 0).get k = some b ∧ b.own = true ∧ β0 k = some Lk ∧ Lk.g = L.g
  frame : Frame β0 (M 0) w0 w

theorem in_set {S : Array Bool} {i j : Nat} (hj : j < S.size) : In (S.setIfInBounds j true) i ↔ In S i ∨ i = j := by
  unfold In
  by_cases h : i = j
  · subst h
    simp [Array.getD_eq_getD_getElem?, hj]
  · simp [Array.getD_eq_getD_getElem?, Array.getElem?_setIfInBounds_ne (fun e => h e.symm), h]

theorem mem_ready {S : Array Bool} {j : Nat} (h : j ∈ Region.ready .any ops S) (hs : S.size = ops.size) :
    ∃ o, ops[j]? = some o ∧ j < ops.size ∧ ¬ In S j ∧ ∀ e ∈ o.after.toList, Region.binds .any e = true → In S e.on := by
  unfold Region.ready at h
  rw [List.mem_filter] at h
  obtain ⟨h1, h2⟩ := h
  have hj : j < ops.size := by simpa using h1
  have ho : ops[j]? = some ops[j] := Array.getElem?_eq_getElem hj
  rw [ho] at h2
  simp only [Bool.and_eq_true, Option.map_some, Option.getD_some] at h2
  refine ⟨_, ho, hj, ?_, ?_⟩
  · unfold In
    have := h2.1
    simp only [Array.getD_eq_getD_getElem?] at this ⊢
    rw [Array.getElem?_eq_getElem (by omega)] at this ⊢
    simp at this ⊢
    exact this
  · intro e he hb
    have := h2.2
    rw [Array.all_eq_true_iff_forall_mem] at this
    have := this e (by simpa using he)
    simp only [hb, Bool.not_true, Bool.false_or] at this
    exact this

variable {β0 : Ren} {w0 : World} {d0 : List Deferred} {S : Array Bool} {a : Act} {w : World} {β : Ren} {p : Nat}

theorem Inv.ahead (I : Inv P ops E M V bef N β0 w0 d0 S a w β p) (R : RegOk ops bef) {j : Nat} {o : Oper} (ho : ops[j]? = some o) (hr : ∀ e ∈ o.after.toList, Region.binds .any e = true → In S e.on) :
    ∀ i, Bef bef i j → In S i := by
  intro i hi
  obtain ⟨e, he, hb, h⟩ := R.clos j o ho i hi
  rcases h with h | h
  · rw [← h]; exact hr e he hb
  · exact I.cl e.on (hr e he hb) i h

/-- What the walk's environment holds, as the region began with it and as its operations came. -/
theorem Walk.envAt (T : Walk P call ops E M V) (R : RegOk ops bef) (t : Nat) : ∀ (j : Nat), j ≤ ops.size → ∀ x, E j t = some x →
    (∃ i o, i < j ∧ ops[i]? = some o ∧ o.dst = some t ∧ x = val V i) ∨ ((∀ i o, i < j → ops[i]? = some o → o.dst ≠ some t) ∧ E 0 t = some x)
  | 0, _, x, h => .inr ⟨fun i o hi => by omega, h⟩
  | j + 1, hj, x, h => by
    have ho : ops[j]? = some ops[j] := Array.getElem?_eq_getElem (by omega)
    rw [T.env j _ ho] at h
    by_cases hd : ops[j].dst = some t
    · refine .inl ⟨j, _, by omega, ho, hd, ?_⟩
      rw [hd] at h
      simp only [Env.put, if_true, Option.some.injEq] at h
      exact h.symm
    · have h' : E j t = some x := by
        cases hq : ops[j].dst with
        | none => rw [hq] at h; exact h
        | some q =>
          rw [hq] at h hd
          simp only [Env.put] at h
          rwa [if_neg (fun e => hd (by rw [e]))] at h
      rcases T.envAt R t j (by omega) x h' with ⟨i, o, h1, h2, h3, h4⟩ | ⟨h1, h2⟩
      · exact .inl ⟨i, o, by omega, h2, h3, h4⟩
      · refine .inr ⟨fun i o hi ho' => ?_, h2⟩
        by_cases he : i = j
        · subst he
          rw [ho] at ho'
          obtain rfl := Option.some.inj ho'
          exact hd
        · exact h1 i o (by omega) ho'

/-- The environment of an operation, as far as it looks. -/
def seen (ops : Array Oper) (E : Nat → Env) (j : Nat) (o : Oper) : Env := fun t => if t ∈ o.looksAt ops then E j t else none

theorem Inv.erel (I : Inv P ops E M V bef N β0 w0 d0 S a w β p) (R : RegOk ops bef) (T : Walk P call ops E M V) {j : Nat} {o : Oper} (ho : ops[j]? = some o) (hj : j < ops.size) (hn : ¬ In S j)
    (hr : ∀ e ∈ o.after.toList, Region.binds .any e = true → In S e.on) : ERel β N (seen ops E j o) a := by
  refine ⟨I.asz, fun t x h => I.env t x ?_⟩
  unfold seen at h
  split at h
  · rename_i ht
    rcases T.envAt R t j (by omega) x h with ⟨i, oi, h1, h2, h3, h4⟩ | ⟨h1, h2⟩
    · refine .inl ⟨i, oi, ?_, h2, h3, h4⟩
      rcases R.data i j oi o t (by omega) h2 ho h3 ht with hb | hb
      · exact I.ahead R ho hr i hb
      · have := R.lt i oi h2 j hb
        omega
    · refine .inr ⟨fun i oi hi h3 h4 => ?_, h2⟩
      by_cases hij : i < j
      · exact h1 i oi hij h3 h4
      · by_cases he : i = j
        · subst he; exact hn hi
        · rcases R.data i j oi o t he h3 ho h4 ht with hb | hb
          · have := R.lt j o ho i hb
            omega
          · exact hn (I.cl i hi j hb)
  · cases h

theorem seen_ev {j : Nat} {o : Oper} {x : Operand} (hx : x ∈ o.op.operands) : ev1 (seen ops E j o) x = ev1 (E j) x := by
  cases x with
  | tmp t =>
    have : t ∈ o.looksAt ops := List.mem_append_left _ (List.mem_filterMap.2 ⟨.tmp t, by simpa using hx, rfl⟩)
    simp only [ev1, seen, if_pos this]
  | _ => rfl

theorem seen_step {j : Nat} {o : Oper} {m : Mem} : stepOp P call (seen ops E j o) o.op m = stepOp P call (E j) o.op m :=
  stepOp_congr fun _ hx => seen_ev hx

theorem seen_guard {j : Nat} {o : Oper} : guardOf ops (seen ops E j o) o = guardOf ops (E j) o := by
  unfold guardOf
  split
  · rfl
  · rename_i g want hg
    split
    · rfl
    · rename_i t ht
      have : t ∈ o.looksAt ops := List.mem_append_right _ (by simp [hg, ht])
      simp only [seen, if_pos this]

/-- One more operation is through. -/
theorem Inv.next (I : Inv P ops E M V bef N β0 w0 d0 S a w β p) (hcall : CallGrow call) (R : RegOk ops bef) (T : Walk P call ops E M V) (hN : ∀ (i : Nat) (o : Oper) (t : Nat), ops[i]? = some o → o.dst = some t → t < N)
    {j : Nat} {o : Oper} (ho : ops[j]? = some o) (hj : j < ops.size) (hn : ¬ In S j) (hr : ∀ e ∈ o.after.toList, Region.binds .any e = true → In S e.on)
    {A A' : Mem} {β' : Ren} {w' : World} {v : Value} {p' : Nat} (hA : ∀ i b, A.get i = some b → (memX M ops.size p).get i = some b)
    (hrange : A.next = (M j).next ∧ A'.next = (M (j + 1)).next ∨ A.next = A'.next) (hchain : ∀ i b, i < (M 0).next → A.get i = some b → b.own = true → ∃ b0, (M 0).get i = some b0 ∧ b0.own = true)
    (hpost : Post P β A w A' β' w') (hFA : Free β A A') (hgr : Grow A A') (hv : VRel β' (val V j) v)
    (hp' : p' ≤ ops.size) (lo' : ∀ i, i < p' → Wr ops V i → In S i ∨ i = j) (hi' : p' < ops.size → Wr ops V p') (hi2' : ∀ i, p' ≤ i → Wr ops V i → ¬ (In S i ∨ i = j))
    (low' : ∀ i, i < (M p').next → β' i = none → (M p').get i = initAt M ops.size i)
    (hm : ∀ i b, (memX M ops.size p').get i = some b → β' i = none ∨ A'.get i = some b ∨ ((memX M ops.size p).get i = some b ∧ A.get i = none ∧ (i < A.next ∨ A'.next ≤ i))) :
    Inv P ops E M V bef N β0 w0 d0 (S.setIfInBounds j true) (a.put o.dst v) w' β' p' := by
  have hjS : j < S.size := by rw [I.sz]; exact hj
  have hle := hpost.ext hFA
  have hmono : ∀ a b, a ≤ b → b ≤ ops.size → (M a).next ≤ (M b).next := fun a b h1 h2 => (T.grow hcall b h2 a h1).next
  have hj1 := hmono 0 j (by omega) (by omega)
  have hj2 := hmono j (j + 1) (by omega) (by omega)
  have hj3 := hmono (j + 1) ops.size (by omega) (by omega)
  have hsame : ∀ i, (i < (M j).next ∨ (M (j + 1)).next ≤ i) → β' i = β i := by
    intro i hi
    refine hpost.out i ?_
    rcases hrange with ⟨h1, h2⟩ | h1
    · rw [h1, h2]; exact hi
    · omega
  refine ⟨hp', fun i h1 h2 => (in_set hjS).2 (lo' i h1 h2), hi', fun i h1 h2 h3 => hi2' i h1 h2 ((in_set hjS).1 h3), ?_, by simp [I.sz], ?_, ?_, ?_, ?_, low', ?_, ?_, ?_, ?_⟩
  · intro k hk i hb
    rw [in_set hjS] at hk ⊢
    rcases hk with hk | rfl
    · exact .inl (I.cl k hk i hb)
    · exact .inl (I.ahead R ho hr i hb)
  · intro t x hD
    have old : Due ops E V S t x → o.dst ≠ some t → ∃ u, (a.put o.dst v).tmps[t]? = some u ∧ VRel β' x u := by
      intro hd hne
      obtain ⟨u, hu, ru⟩ := I.env t x hd
      refine ⟨u, ?_, ru.mono hle⟩
      cases hq : o.dst with
      | none => exact hu
      | some q =>
        simp only [Act.put]
        rw [Array.getElem?_setIfInBounds_ne (fun e => hne (by rw [hq, e]))]
        exact hu
    have self : o.dst = some t → ∃ u, (a.put o.dst v).tmps[t]? = some u ∧ VRel β' (val V j) u := by
      intro hd
      refine ⟨v, ?_, hv⟩
      have := hN j o t ho hd
      rw [hd]
      simp [Act.put, I.asz, this]
    rcases hD with ⟨i, oi, h1, h2, h3, h4⟩ | ⟨h1, h2⟩
    · rw [in_set hjS] at h1
      rcases h1 with h1 | rfl
      · refine old (.inl ⟨i, oi, h1, h2, h3, h4⟩) fun hd => ?_
        have := R.dst i j oi o t h2 ho h3 hd
        subst this
        exact hn h1
      · rw [ho] at h2
        obtain rfl := Option.some.inj h2
        rw [h4]
        exact self h3
    · have hne : o.dst ≠ some t := h1 j o ((in_set hjS).2 (.inr rfl)) ho
      exact old (.inr ⟨fun i oi hi => h1 i oi ((in_set hjS).2 (.inl hi)), h2⟩) hne
  · cases hq : o.dst <;> simp [Act.put, I.asz]
  · rw [put_defers]; exact I.dfs
  · refine WRel.merge I.rel hA hpost hFA hgr hm ?_
    intro i hi
    simp only [memX] at hi ⊢
    have := hmono p' ops.size hp' (Nat.le_refl _)
    rw [if_neg (by omega)]
    exact initAt_out hmono hi _ (Nat.le_refl _)
  · intro i hi
    rw [hsame i (by omega)]
    exact I.out i hi
  · intro k ok hok hk i h1 h2
    rw [in_set hjS] at hk
    have hkj : k ≠ j := fun e => hk (.inr e)
    have hks : k < ops.size := by
      rcases Nat.lt_or_ge k ops.size with h | h
      · exact h
      · rw [Array.getElem?_eq_none h] at hok; cases hok
    have : i < (M j).next ∨ (M (j + 1)).next ≤ i := by
      rcases Nat.lt_or_ge k j with h | h
      · have := hmono (k + 1) j (by omega) (by omega)
        omega
      · have := hmono (j + 1) k (by omega) (by omega)
        omega
    rw [hsame i this]
    exact I.un k ok hok (fun h => hk (.inl h)) i h1 h2
  · intro i L h1 h2 hL
    by_cases hi : i < A.next ∨ A'.next ≤ i
    · rw [hpost.out i hi] at hL
      exact I.far i L h1 h2 hL
    · rcases hpost.far i L (by omega) (by omega) hL with h | ⟨k, bk, Lk, hk, hko, hkL, hkg⟩
      · exact .inl (Nat.le_trans I.frame.size h)
      · by_cases hk0 : k < (M 0).next
        · obtain ⟨b0, hb0, ho0⟩ := hchain k bk hk0 hk hko
          rw [I.out k (.inl hk0)] at hkL
          exact .inr ⟨k, b0, Lk, hb0, ho0, hkL, hkg⟩
        · have hkn : k < (M ops.size).next := by
            rcases Nat.lt_or_ge k (M ops.size).next with h | h
            · exact h
            · have h9 := hA k bk hk
              rw [I.rel.fresh k (by simpa [memX] using h)] at h9
              cases h9
          rw [← hkg]
          exact I.far k Lk (by omega) hkn hkL
  · refine ⟨hpost.frame.os.trans I.frame.os, hpost.frame.tape.trans I.frame.tape, hpost.frame.output.trans I.frame.output, Nat.le_trans I.frame.size hpost.frame.size, fun g hg hno => ?_⟩
    rw [hpost.frame.block g (Nat.lt_of_lt_of_le hg I.frame.size) ?_, I.frame.block g hg hno]
    intro k bk Lk hk hko hkL e
    by_cases hk0 : k < (M 0).next
    · obtain ⟨b0, hb0, ho0⟩ := hchain k bk hk0 hk hko
      rw [I.out k (.inl hk0)] at hkL
      exact hno k b0 Lk hb0 ho0 hkL e
    · have hkn : k < (M ops.size).next := by
        rcases Nat.lt_or_ge k (M ops.size).next with h | h
        · exact h
        · have h9 := hA k bk hk
          rw [I.rel.fresh k (by simpa [memX] using h)] at h9
          cases h9
      rcases I.far k Lk (by omega) hkn hkL with h | ⟨q, bq, Lq, hq, hqo, hqL, hqg⟩
      · omega
      · exact hno q bq Lq hq hqo hqL (hqg.trans e)
end
end Go.AM
