/- A region whose order is open: any order comes to what the text's order comes to. The law without the machine's steps. -/
import Derived.Test.YtbnmmfgidbhpeaaAmSound10
set_option linter.unusedSimpArgs false
set_option linter.unusedVariables false
namespace Go.AM
open Go

/-- The operations of a region, one by one. -/
structure Walk (P : Program) (call : CallF) (ops : Array Oper) (E : Nat → Env) (M : Nat → Mem) (V : Nat → Option Value) : Prop where
  guard : ∀ k o, ops[k]? = some o → guardOf ops (E k) o = some (V k).isSome
  step : ∀ k o v, ops[k]? = some o → V k = some v → stepOp P call (E k) o.op (M k) = some (v, M (k + 1))
  skip : ∀ k o, ops[k]? = some o → V k = none → M (k + 1) = M k
  env : ∀ k o, ops[k]? = some o → E (k + 1) = (E k).put o.dst ((V k).getD undef)

def Bef (bef : Array Nat) (i j : Nat) : Prop := (bef.getD j 0).testBit i = true

/-- What is asked of a region whose order is open. -/
structure RegOk (ops : Array Oper) (bef : Array Nat) : Prop where
  clos : ∀ (j : Nat) (o : Oper), ops[j]? = some o → ∀ i, Bef bef i j → ∃ e ∈ o.after.toList, Region.binds .any e = true ∧ (e.on = i ∨ Bef bef i e.on)
  edge : ∀ (j : Nat) (o : Oper), ops[j]? = some o → ∀ e ∈ o.after.toList, Region.binds .any e = true → e.on < j
  dst : ∀ (i j : Nat) (oi oj : Oper) (t : Nat), ops[i]? = some oi → ops[j]? = some oj → oi.dst = some t → oj.dst = some t → i = j
  data : ∀ (i j : Nat) (oi oj : Oper) (t : Nat), i ≠ j → ops[i]? = some oi → ops[j]? = some oj → oi.dst = some t → t ∈ oj.looksAt ops → Bef bef i j ∨ Bef bef j i
  wr : ∀ (i j : Nat) (oi oj : Oper), i < j → ops[i]? = some oi → ops[j]? = some oj → writes oi.op = true → writes oj.op = true → Bef bef i j

theorem RegOk.lt {ops : Array Oper} {bef : Array Nat} (R : RegOk ops bef) : ∀ (j : Nat) (o : Oper), ops[j]? = some o → ∀ i, Bef bef i j → i < j := by
  intro j
  induction j using Nat.strongRecOn with
  | _ j ih =>
    intro o ho i hb
    obtain ⟨e, he, hbd, h⟩ := R.clos j o ho i hb
    have hlt := R.edge j o ho e he hbd
    rcases h with h | h
    · omega
    · have hon : e.on < ops.size := by
        have : j < ops.size := by
          rcases Nat.lt_or_ge j ops.size with h' | h'
          · exact h'
          · rw [Array.getElem?_eq_none h'] at ho; cases ho
        omega
      have := ih e.on hlt ops[e.on] (Array.getElem?_eq_getElem hon) i h
      omega

section
variable {P : Program} {call : CallF} {ops : Array Oper} {E : Nat → Env} {M : Nat → Mem} {V : Nat → Option Value}

theorem Walk.grow (hcall : CallGrow call) (T : Walk P call ops E M V) : ∀ (b : Nat), b ≤ ops.size → ∀ a, a ≤ b → Grow (M a) (M b)
  | 0, _, a, h => by
    obtain rfl : a = 0 := by omega
    exact Grow.refl _
  | b + 1, hb, a, h => by
    by_cases he : a = b + 1
    · rw [he]; exact Grow.refl _
    · refine (T.grow hcall b (by omega) a (by omega)).trans ?_
      have ho : ops[b]? = some ops[b] := Array.getElem?_eq_getElem (by omega)
      cases hv : V b with
      | none => rw [T.skip b _ ho hv]; exact Grow.refl _
      | some v => exact stepOp_grow hcall (T.step b _ v ho hv)

def initAt (M : Nat → Mem) : Nat → Nat → Option Blk
  | 0, i => if i < (M 0).next then (M 0).get i else none
  | k + 1, i => if i < (M k).next then initAt M k i else if i < (M (k + 1)).next then (M (k + 1)).get i else none

theorem initAt_low {M : Nat → Mem} (hm : ∀ k, (M 0).next ≤ (M k).next) {i : Nat} (hi : i < (M 0).next) : ∀ k, initAt M k i = (M 0).get i
  | 0 => by simp [initAt, hi]
  | k + 1 => by
    have := hm k
    simp only [initAt]
    rw [if_pos (by omega), initAt_low hm hi k]

theorem initAt_at {M : Nat → Mem} {n j i : Nat} (hm : ∀ a b, a ≤ b → b ≤ n → (M a).next ≤ (M b).next) (h1 : (M j).next ≤ i) (h2 : i < (M (j + 1)).next) : ∀ k, j + 1 ≤ k → k ≤ n → initAt M k i = (M (j + 1)).get i
  | 0, h, _ => by omega
  | k + 1, h, hk => by
    simp only [initAt]
    by_cases he : j = k
    · subst he
      rw [if_neg (by omega), if_pos h2]
    · have := hm (j + 1) k (by omega) (by omega)
      rw [if_pos (by omega), initAt_at hm h1 h2 k (by omega) (by omega)]

theorem initAt_out {M : Nat → Mem} {n i : Nat} (hm : ∀ a b, a ≤ b → b ≤ n → (M a).next ≤ (M b).next) (h : (M n).next ≤ i) : ∀ k, k ≤ n → initAt M k i = none
  | 0, hk => by
    have := hm 0 n (by omega) (by omega)
    simp only [initAt]
    rw [if_neg (by omega)]
  | k + 1, hk => by
    have h1 := hm k n (by omega) (by omega)
    have h2 := hm (k + 1) n (by omega) (by omega)
    simp only [initAt]
    rw [if_neg (by omega), if_neg (by omega)]

/-- An operation that is performed and writes. -/
def Wr (ops : Array Oper) (V : Nat → Option Value) (i : Nat) : Prop := ∃ o, ops[i]? = some o ∧ writes o.op = true ∧ (V i).isSome = true

theorem Walk.still (T : Walk P call ops E M V) {k : Nat} {o : Oper} (ho : ops[k]? = some o) (hw : ¬ Wr ops V k) :
    M (k + 1) = M k ∨ ∃ b, M (k + 1) = (M k).new b := by
  cases hv : V k with
  | none => exact .inl (T.skip k o ho hv)
  | some v =>
    have hs := T.step k o v ho hv
    have hwr : writes o.op = false := by
      cases h : writes o.op with
      | false => rfl
      | true => exact absurd ⟨o, ho, h, by simp [hv]⟩ hw
    by_cases hr : readsMemP P o.op = true
    · refine .inl ?_
      have : stepOp P call (E k) o.op (M k) = evOp P (E k) o.op (M k) := by
        revert hr; cases o.op <;> simp [readsMemP, stepOp]
      rw [this] at hs
      exact evOp_reads hr hs
    · cases stepOp_idle hwr (by simpa using hr) hs with
      | same h _ => exact .inl h
      | new b h _ => exact .inr ⟨b, h⟩

theorem Walk.quiet (hcall : CallGrow call) (T : Walk P call ops E M V) (a : Nat) : ∀ (b : Nat), a ≤ b → b ≤ ops.size → (∀ q, a ≤ q → q < b → ¬ Wr ops V q) →
    ∀ i, i < (M b).next → (i < (M a).next → (M b).get i = (M a).get i) ∧ ((M a).next ≤ i → (M b).get i = initAt M ops.size i)
  | 0, hab, _, _, i, hi => by
    obtain rfl : a = 0 := by omega
    exact ⟨fun _ => rfl, fun h => by omega⟩
  | b + 1, hab, hb, hw, i, hi => by
    by_cases he : a = b + 1
    · subst he
      exact ⟨fun _ => rfl, fun h => by omega⟩
    · have ih := T.quiet hcall a b (by omega) (by omega) (fun q h1 h2 => hw q h1 (by omega)) i
      have hm : ∀ a b, a ≤ b → b ≤ ops.size → (M a).next ≤ (M b).next := fun a b h1 h2 => (T.grow hcall b h2 a h1).next
      have hab' := hm a b (by omega) (by omega)
      have ho : ops[b]? = some ops[b] := Array.getElem?_eq_getElem (by omega)
      rcases T.still ho (hw b (by omega) (by omega)) with h | ⟨x, h⟩
      · rw [h] at hi ⊢
        exact ih hi
      · by_cases hib : i < (M b).next
        · have : (M (b + 1)).get i = (M b).get i := by
            rw [h]; simp only [Mem.new]; rw [if_neg (by omega)]
          rw [this]
          exact ih hib
        · refine ⟨fun h => by omega, fun _ => ?_⟩
          rw [initAt_at hm (by omega) hi ops.size (by omega) (Nat.le_refl _)]

theorem next_writer (Wr : Nat → Prop) (n : Nat) : ∀ d q, n - q = d → q ≤ n → ∃ p, q ≤ p ∧ p ≤ n ∧ (∀ i, q ≤ i → i < p → ¬ Wr i) ∧ (p < n → Wr p)
  | 0, q, hd, hq => ⟨q, Nat.le_refl _, hq, fun i h1 h2 => by omega, fun h => by omega⟩
  | d + 1, q, hd, hq => by
    by_cases h : Wr q
    · exact ⟨q, Nat.le_refl _, hq, fun i h1 h2 => by omega, fun _ => h⟩
    · obtain ⟨p, h1, h2, h3, h4⟩ := next_writer Wr n d (q + 1) (by omega) (by omega)
      refine ⟨p, by omega, h2, fun i h5 h6 => ?_, h4⟩
      by_cases he : i = q
      · rw [he]; exact h
      · exact h3 i (by omega) h6

/-- The memory while the next writer is p: what it has been given so far; what is made later stands as it was made. -/
def memX (M : Nat → Mem) (n p : Nat) : Mem := { get := fun i => if i < (M p).next then (M p).get i else initAt M n i, next := (M n).next }

/-- A step at a part of the memory, seen in the whole. -/
theorem WRel.merge {β β' : Ren} {X X' A A' : Mem} {w w' : World} (hX : WRel P β X w) (hA : ∀ i b, A.get i = some b → X.get i = some b) (hp : Post P β A w A' β' w') (hF : Free β A A') (hg : Grow A A')
    (hm : ∀ i b, X'.get i = some b → β' i = none ∨ A'.get i = some b ∨ (X.get i = some b ∧ A.get i = none ∧ (i < A.next ∨ A'.next ≤ i)))
    (hf : ∀ i, X'.next ≤ i → X'.get i = none) : WRel P β' X' w' := by
  have hle := hp.ext hF
  -- what stands of an old block beside the part
  have old : ∀ i b L, X.get i = some b → A.get i = none → (i < A.next ∨ A'.next ≤ i) → β' i = some L → β i = some L ∧ w'.heap[L.g]? = w.heap[L.g]? := by
    intro i b L h1 h2 h3 h4
    rw [hp.out i h3] at h4
    refine ⟨h4, hp.frame.block L.g (hX.dom i b L h1 h4) ?_⟩
    intro k bk Lk hk hko hLk e
    have := hX.inj k i bk b Lk L (hA k bk hk) h1 hLk h4 e (.inl hko)
    subst this
    rw [h2] at hk
    cases hk
  have cross : ∀ i j bi bj L L', A'.get i = some bi → X.get j = some bj → A.get j = none → (j < A.next ∨ A'.next ≤ j) → β' i = some L → β' j = some L' → L.g = L'.g → (bi.own = true ∨ bj.own = true) → False := by
    intro i j bi bj L L' h1 h2 h3 h4 h5 h6 e ho
    have hj := (old j bj L' h2 h3 h4 h6).1
    have hi : i < A'.next := by
      rcases Nat.lt_or_ge i A'.next with h | h
      · exact h
      · rw [hp.rel.fresh i h] at h1; cases h1
    by_cases hi2 : i < A.next
    · obtain ⟨b0, hb0, hbo⟩ := hg.dom i bi hi2 h1
      rw [hp.out i (.inl hi2)] at h5
      have := hX.inj i j b0 bj L L' (hA i b0 hb0) h2 h5 hj e (ho.imp hbo id)
      subst this
      rw [h3] at hb0
      cases hb0
    · rcases hp.far i L (by omega) hi h5 with h | ⟨k, bk, Lk, hk, hko, hLk, hkg⟩
      · have := hX.dom j bj L' h2 hj
        omega
      · have := hX.inj k j bk bj Lk L' (hA k bk hk) h2 hLk hj (hkg.trans e) (.inl hko)
        subst this
        rw [h3] at hk
        cases hk
  refine ⟨?_, ?_, ?_, hf⟩
  · intro i b L h1 h2
    rcases hm i b h1 with h | h | ⟨h, h3, h4⟩
    · rw [h] at h2; cases h2
    · exact hp.rel.blk i b L h h2
    · obtain ⟨h5, h6⟩ := old i b L h h3 h4 h2
      rw [h6]
      exact (hX.blk i b L h h5).mono hle
  · intro i j bi bj L L' h1 h2 h3 h4 e ho
    rcases hm i bi h1 with h | h | ⟨h, h5, h6⟩
    · rw [h] at h3; cases h3
    · rcases hm j bj h2 with k | k | ⟨k, k5, k6⟩
      · rw [k] at h4; cases h4
      · exact hp.rel.inj i j bi bj L L' h k h3 h4 e ho
      · exact (cross i j bi bj L L' h k k5 k6 h3 h4 e ho).elim
    · rcases hm j bj h2 with k | k | ⟨k, k5, k6⟩
      · rw [k] at h4; cases h4
      · exact (cross j i bj bi L' L k h h5 h6 h4 h3 e.symm ho.symm).elim
      · exact hX.inj i j bi bj L L' h k (old i bi L h h5 h6 h3).1 (old j bj L' k k5 k6 h4).1 e ho
  · intro i b L h1 h2
    rcases hm i b h1 with h | h | ⟨h, h3, h4⟩
    · rw [h] at h2; cases h2
    · exact hp.rel.dom i b L h h2
    · exact Nat.lt_of_lt_of_le (hX.dom i b L h (old i b L h h3 h4 h2).1) hp.frame.size
end
end Go.AM
