/- A region whose order is open, whole. -/
import Derived.Test.YtbnmmfgidbhpeaaAmSound13
set_option linter.unusedSimpArgs false
set_option linter.unusedVariables false
namespace Go.AM
open Go

section
variable {P : Program} {call : CallF} {ops : Array Oper} {E : Nat → Env} {M : Nat → Mem} {V : Nat → Option Value} {bef : Array Nat} {N : Nat}
variable {β0 : Ren} {w0 : World} {d0 : List Deferred} {S : Array Bool} {a : Act} {w : World} {β : Ren} {p : Nat}

theorem all_listed (R : RegOk ops bef) (hs : S.size = ops.size) (h : Region.ready .any ops S = []) : ∀ (i : Nat), i < ops.size → In S i := by
  intro i
  induction i using Nat.strongRecOn with
  | _ i ih =>
    intro hi
    apply Classical.byContradiction
    intro hn
    have ho : ops[i]? = some ops[i] := Array.getElem?_eq_getElem hi
    have : i ∈ Region.ready .any ops S := by
      unfold Region.ready
      rw [List.mem_filter]
      refine ⟨by simpa using hi, ?_⟩
      rw [ho]
      simp only [Bool.and_eq_true, Option.map_some, Option.getD_some]
      refine ⟨?_, ?_⟩
      · unfold In at hn
        simp only [Array.getD_eq_getD_getElem?] at hn ⊢
        rw [Array.getElem?_eq_getElem (by omega)] at hn ⊢
        simpa using hn
      · rw [Array.all_eq_true_iff_forall_mem]
        intro e he
        cases hb : Region.binds .any e with
        | false => rfl
        | true =>
          have hlt := R.edge i _ ho e (by simpa using he) hb
          have := ih e.on hlt (by omega)
          simpa [In] using this
    rw [h] at this
    cases this

def left (S : Array Bool) : Nat := S.toList.countP (· == false)

theorem left_zero (h : left S = 0) : ∀ i, i < S.size → In S i := by
  intro i hi
  unfold left at h
  rw [List.countP_eq_zero] at h
  have hm : S[i] ∈ S.toList := by simp
  have := h _ hm
  unfold In
  simp only [Array.getD_eq_getD_getElem?, Array.getElem?_eq_getElem hi, Option.getD_some]
  cases hq : S[i] with
  | true => rfl
  | false => rw [hq] at this; simp at this

theorem left_set {j : Nat} (hj : j < S.size) (hn : ¬ In S j) : left (S.setIfInBounds j true) < left S := by
  have hf : S[j] = false := by
    unfold In at hn
    simp only [Array.getD_eq_getD_getElem?, Array.getElem?_eq_getElem hj, Option.getD_some] at hn
    simpa using hn
  unfold left
  have hj' : j < S.toList.length := by simpa using hj
  have h1 : (S.setIfInBounds j true).toList = S.toList.set j true := by simp
  rw [h1, List.countP_set hj']
  have h2 : S.toList[j] = false := by simpa using hf
  have h3 : 0 < S.toList.countP (· == false) := by
    rw [List.countP_pos_iff]
    exact ⟨false, by rw [← h2]; simp, rfl⟩
  rw [h2]
  have h4 : (true == false) = false := rfl
  have h5 : (false == false) = true := rfl
  simp only [h4, h5, if_true, Bool.false_eq_true, if_false]
  omega

theorem ready_nil (hs : S.size = ops.size) (h : ∀ i, i < ops.size → In S i) : Region.ready .any ops S = [] := by
  unfold Region.ready
  rw [List.filter_eq_nil_iff]
  intro i hi
  have hi' : i < ops.size := by simpa using hi
  have := h i hi'
  unfold In at this
  simp only [Array.getD_eq_getD_getElem?] at this ⊢
  rw [Array.getElem?_eq_getElem (by omega)] at this ⊢
  simp at this
  simp [this]

theorem Inv.done (I : Inv P ops E M V bef N β0 w0 d0 S a w β p) (R : RegOk ops bef) (hcall : CallGrow call) (T : Walk P call ops E M V) (hfr : ∀ i, (M 0).next ≤ i → (M 0).get i = none) (hall : ∀ i, i < ops.size → In S i) :
    ERel β N (E ops.size) a ∧ a.defers = d0 ∧ Post P β0 (M 0) w0 (M ops.size) β w := by
  have hp : p = ops.size := by
    rcases Nat.lt_or_ge p ops.size with h | h
    · exact absurd (hall p h) (I.hi2 p (Nat.le_refl _) (I.hi h))
    · have := I.hp; omega
  subst hp
  have hmono : ∀ a b, a ≤ b → b ≤ ops.size → (M a).next ≤ (M b).next := fun a b h1 h2 => (T.grow hcall b h2 a h1).next
  refine ⟨⟨I.asz, fun t x h => I.env t x ?_⟩, I.dfs, ⟨I.now hcall T hfr, I.frame, hmono 0 _ (by omega) (Nat.le_refl _), I.out, ?_, ?_, ?_⟩⟩
  · rcases T.envAt R t ops.size (Nat.le_refl _) x h with ⟨i, o, h1, h2, h3, h4⟩ | ⟨h1, h2⟩
    · exact .inl ⟨i, o, hall i h1, h2, h3, h4⟩
    · refine .inr ⟨fun i o hi h3 => ?_, h2⟩
      have : i < ops.size := by
        rcases Nat.lt_or_ge i ops.size with h | h
        · exact h
        · rw [Array.getElem?_eq_none h] at h3; cases h3
      exact h1 i o this h3
  · intro i h1 h2
    have := hmono 0 ops.size (by omega) (Nat.le_refl _)
    rw [I.low i (by omega) (by rw [I.out i (.inl h1)]; exact h2)]
    exact initAt_low' hmono h1
  · intro i b h1 h2 h3
    obtain ⟨b0, h4, h5⟩ := (T.grow hcall ops.size (Nat.le_refl _) 0 (by omega)).dom i b h1 h2
    exact ⟨b0, h4, h5 h3⟩
  · exact I.far
where
  initAt_low' {i : Nat} (hm : ∀ a b, a ≤ b → b ≤ ops.size → (M a).next ≤ (M b).next) (hi : i < (M 0).next) : initAt M ops.size i = (M 0).get i := by
    have key : ∀ k, k ≤ ops.size → initAt M k i = (M 0).get i := by
      intro k
      induction k with
      | zero => intro _; simp [initAt, hi]
      | succ k ih =>
        intro hk
        have := hm 0 k (by omega) (by omega)
        simp only [initAt]
        rw [if_pos (by omega), ih (by omega)]
    exact key _ (Nat.le_refl _)

theorem Inv.start (hcall : CallGrow call) (T : Walk P call ops E M V) (hE : ERel β0 N (E 0) a) (W : WRel P β0 (M 0) w0) (hF : Free β0 (M 0) (M ops.size)) (hd : a.defers = d0) :
    ∃ p, Inv P ops E M V bef N β0 w0 d0 (Array.replicate ops.size false) a w0.drew β0 p := by
  obtain ⟨p, _, h2, h3, h4⟩ := next_writer (Wr ops V) ops.size _ 0 rfl (by omega)
  have hmono : ∀ a b, a ≤ b → b ≤ ops.size → (M a).next ≤ (M b).next := fun a b h1 h2 => (T.grow hcall b h2 a h1).next
  have hno : ∀ i, ¬ In (Array.replicate ops.size false) i := by
    intro i h
    unfold In at h
    simp only [Array.getD_eq_getD_getElem?, Array.getElem?_replicate] at h
    split at h <;> simp at h
  have hq := T.quiet hcall 0 p (by omega) h2 (fun q _ h => h3 q (by omega) h)
  have hlow : ∀ i, i < (M p).next → (M p).get i = initAt M ops.size i := by
    intro i hi
    by_cases h : i < (M 0).next
    · rw [(hq i hi).1 h, Inv.done.initAt_low' hmono h]
    · exact (hq i hi).2 (by omega)
  have hX : ∀ i b L, (memX M ops.size p).get i = some b → β0 i = some L → (M 0).get i = some b := by
    intro i b L h5 h6
    have h0 := hmono 0 p (by omega) h2
    have h1 := hmono p ops.size h2 (Nat.le_refl _)
    have hi : i < (M 0).next := by
      rcases Nat.lt_or_ge i (M 0).next with h | h
      · exact h
      · rcases Nat.lt_or_ge i (M ops.size).next with k | k
        · rw [hF i h k] at h6; cases h6
        · simp only [memX] at h5
          rw [if_neg (by omega), initAt_out hmono k _ (Nat.le_refl _)] at h5
          cases h5
    simp only [memX] at h5
    rw [if_pos (by omega), (hq i (by omega)).1 hi] at h5
    exact h5
  refine ⟨p, h2, fun i h5 h6 => absurd h6 (h3 i (by omega) h5), h4, fun i _ _ h => hno i h, fun j h => absurd h (hno j), by simp, ?_, hE.size, hd, ?_, fun i h5 _ => hlow i h5, fun i _ => rfl, ?_, ?_, ⟨rfl, rfl, rfl, Nat.le_refl _, fun _ _ _ => rfl⟩⟩
  · intro t x hD
    rcases hD with ⟨i, o, h5, _⟩ | ⟨_, h5⟩
    · exact absurd h5 (hno i)
    · exact hE.has t x h5
  · refine ⟨fun i b L h5 h6 => W.blk i b L (hX i b L h5 h6) h6, fun i j bi bj L L' h5 h6 h7 h8 e => W.inj i j bi bj L L' (hX i bi L h5 h7) (hX j bj L' h6 h8) h7 h8 e, fun i b L h5 h6 => W.dom i b L (hX i b L h5 h6) h6, fun i hi => ?_⟩
    simp only [memX] at hi ⊢
    have h1 := hmono p ops.size h2 (Nat.le_refl _)
    rw [if_neg (by omega)]
    exact initAt_out hmono hi _ (Nat.le_refl _)
  · intro j o ho _ i h5 h6
    have hj : j < ops.size := by
      rcases Nat.lt_or_ge j ops.size with h | h
      · exact h
      · rw [Array.getElem?_eq_none h] at ho; cases ho
    have h7 := hmono 0 j (by omega) (by omega)
    have h8 := hmono (j + 1) ops.size (by omega) (Nat.le_refl _)
    exact hF i (by omega) (by omega)
  · intro i L h5 h6 h7
    rw [hF i h5 h6] at h7
    cases h7

theorem any_ok (hcall : CallOk P call) (R : RegOk ops bef) (T : Walk P call ops E M V) (hN : ∀ (i : Nat) (o : Oper) (t : Nat), ops[i]? = some o → o.dst = some t → t < N)
    (hfr : ∀ i, (M 0).next ≤ i → (M 0).get i = none) (C : Calm P ops E M V bef) {Q : Exit → Act → World → Prop}
    (K : ∀ a' w' β', ERel β' N (E ops.size) a' → a'.defers = d0 → Post P β0 (M 0) w0 (M ops.size) β' w' → Q .normal a' w') :
    ∀ (fuel : Nat) (S : Array Bool) (a : Act) (w : World), left S ≤ fuel → (∃ β p, Inv P ops E M V bef N β0 w0 d0 S a w β p) → wpAny P .any ops Q fuel S a w
  | 0, S, a, w, hl, ⟨β, p, I⟩ => by
    have hall : ∀ i, i < ops.size → In S i := fun i hi => left_zero (by omega) i (by rw [I.sz]; exact hi)
    obtain ⟨h1, h2, h3⟩ := I.done R hcall.gr T hfr hall
    exact ⟨ready_nil I.sz hall, K a w β h1 h2 h3⟩
  | fuel + 1, S, a, w, hl, ⟨β, p, I⟩ => by
    refine ⟨fun hnil => ?_, fun i hi => ?_⟩
    · obtain ⟨h1, h2, h3⟩ := I.done R hcall.gr T hfr (all_listed R I.sz hnil)
      exact K a w β h1 h2 h3
    · obtain ⟨o, ho, hj, hn, hr⟩ := mem_ready hi I.sz
      have := left_set (S := S) (j := i) (by rw [I.sz]; exact hj) hn
      exact wpOp_mono (fun a' w' h => any_ok hcall R T hN hfr C K fuel _ a' w' (by omega) h) (I.step hcall R T hN hfr C hi)

theorem region_any {id : Nat} (hm : P.follows .mixedOrders = true) (hcall : CallOk P call) (R : RegOk ops bef) (T : Walk P call ops E M V) (hN : ∀ (i : Nat) (o : Oper) (t : Nat), ops[i]? = some o → o.dst = some t → t < N)
    (C : Calm P ops E M V bef) {Q : Exit → Act → World → Prop} (hE : ERel β0 N (E 0) a) (W : WRel P β0 (M 0) w) (hF : Free β0 (M 0) (M ops.size))
    (K : ∀ a' w' β', ERel β' N (E ops.size) a' → a'.defers = a.defers → Post P β0 (M 0) w (M ops.size) β' w' → Q .normal a' w') : (Code.region id ops true).wp P Q a w := by
  refine wp_region_any hm ?_
  obtain ⟨p, I⟩ := Inv.start (bef := bef) hcall.gr T hE W hF rfl
  refine any_ok (w0 := w) hcall R T hN W.fresh C K ops.size _ a _ ?_ ⟨β0, p, I⟩
  unfold left
  refine Nat.le_trans List.countP_le_length ?_
  simp
end

/-- What the trace tells. -/
theorem traceOps_spec {P : Program} {call : CallF} {ops : Array Oper} : ∀ {l : List Nat} {env : Env} {m : Mem} {tr : Tr} {e : Env} {f : Mem}, traceOps P call ops l env m = some (tr, e, f) →
    ∃ (E : Nat → Env) (M : Nat → Mem) (V : Nat → Option Value), E 0 = env ∧ M 0 = m ∧ E l.length = e ∧ M l.length = f ∧ tr.length = l.length ∧ (∀ k, k < l.length → tr[k]? = some (E k, M k, V k)) ∧
      ∀ (k i : Nat), l[k]? = some i → ∃ o, ops[i]? = some o ∧ guardOf ops (E k) o = some (V k).isSome ∧ (∀ v, V k = some v → stepOp P call (E k) o.op (M k) = some (v, M (k + 1))) ∧
        (V k = none → M (k + 1) = M k) ∧ E (k + 1) = (E k).put o.dst ((V k).getD undef)
  | [], env, m, tr, e, f, h => by
    simp only [traceOps, Option.some.injEq, Prod.mk.injEq] at h
    obtain ⟨rfl, rfl, rfl⟩ := h
    exact ⟨fun _ => env, fun _ => m, fun _ => none, rfl, rfl, rfl, rfl, rfl, fun k h => by simp at h, fun k i h => by simp at h⟩
  | i :: r, env, m, tr, e, f, h => by
    simp only [traceOps] at h
    split at h
    · cases h
    · rename_i o ho
      split at h
      · rename_i hg
        split at h
        · rename_i v m' hs
          split at h
          · rename_i tr1 e1 f1 hr
            simp only [Option.some.injEq, Prod.mk.injEq] at h
            obtain ⟨rfl, rfl, rfl⟩ := h
            obtain ⟨E, M, V, h1, h2, h3, h4, h5, h6, h7⟩ := traceOps_spec hr
            refine ⟨fun k => match k with | 0 => env | k + 1 => E k, fun k => match k with | 0 => m | k + 1 => M k, fun k => match k with | 0 => some v | k + 1 => V k, rfl, rfl, h3, h4, by simp [h5], ?_, ?_⟩
            · intro k hk
              cases k with
              | zero => rfl
              | succ k => simpa using h6 k (by simpa using hk)
            · intro k q hq
              cases k with
              | zero =>
                obtain rfl : i = q := by simpa using hq
                refine ⟨o, ho, hg, ?_, fun h => (by simp at h), (by simpa using h1)⟩
                intro v' hv'
                obtain rfl := Option.some.inj hv'
                simpa [h2] using hs
              | succ k => exact h7 k q (by simpa using hq)
          · cases h
        · cases h
      · rename_i hg
        split at h
        · rename_i tr1 e1 f1 hr
          simp only [Option.some.injEq, Prod.mk.injEq] at h
          obtain ⟨rfl, rfl, rfl⟩ := h
          obtain ⟨E, M, V, h1, h2, h3, h4, h5, h6, h7⟩ := traceOps_spec hr
          refine ⟨fun k => match k with | 0 => env | k + 1 => E k, fun k => match k with | 0 => m | k + 1 => M k, fun k => match k with | 0 => none | k + 1 => V k, rfl, rfl, h3, h4, by simp [h5], ?_, ?_⟩
          · intro k hk
            cases k with
            | zero => rfl
            | succ k => simpa using h6 k (by simpa using hk)
          · intro k q hq
            cases k with
            | zero =>
              obtain rfl : i = q := by simpa using hq
              exact ⟨o, ho, hg, fun v' hv' => by simp at hv', fun _ => by simpa using h2, by simpa using h1⟩
            | succ k => exact h7 k q (by simpa using hq)
        · cases h
      · cases h
end Go.AM
