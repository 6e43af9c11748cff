/- Regions as the abstract machine runs them. -/
import Derived.Test.YtimjcfaciiimmaaAmSound8
import Derived.Test.YtimjcfaciiimmaaAmStatic
set_option linter.unusedSimpArgs false
set_option linter.unusedVariables false
namespace Go.AM
open Go
variable {P : Program}

theorem befB_iff {bef : Array Nat} {i j : Nat} : befB bef i j = true ↔ Bef bef i j := Iff.rfl

theorem regOk_of {ops : Array Oper} {bef : Array Nat} (h : regOkB ops bef = true) : RegOk ops bef := by
  unfold regOkB at h
  rw [List.all_eq_true] at h
  have lt : ∀ {j : Nat} {o : Oper}, ops[j]? = some o → j < ops.size := by
    intro j o ho
    rcases Nat.lt_or_ge j ops.size with h' | h'
    · exact h'
    · rw [Array.getElem?_eq_none h'] at ho; cases ho
  have one : ∀ (j : Nat) (o : Oper), ops[j]? = some o → regOneB ops bef j o = true ∧ ∀ (i : Nat) (oi : Oper), i ≠ j → ops[i]? = some oi → regTwoB ops bef i j oi o = true := by
    intro j o ho
    have := h j (by simpa using lt ho)
    rw [ho] at this
    simp only [Bool.and_eq_true, List.all_eq_true] at this
    refine ⟨this.1, fun i oi hij hi => ?_⟩
    have h2 := this.2 i (by simpa using lt hi)
    rw [hi] at h2
    simpa [hij] using h2
  have parts : ∀ (j : Nat) (o : Oper), ops[j]? = some o → (∀ e ∈ o.after.toList, Region.binds .any e = true → e.on < j) ∧ (∀ i, Bef bef i j → i < j) ∧
      (∀ i, i < j → Bef bef i j → ∃ e ∈ o.after.toList, Region.binds .any e = true ∧ (e.on = i ∨ Bef bef i e.on)) := by
    intro j o ho
    have := (one j o ho).1
    unfold regOneB at this
    simp only [Bool.and_eq_true, List.all_eq_true, decide_eq_true_eq] at this
    obtain ⟨⟨h1, h2⟩, h3⟩ := this
    refine ⟨fun e he hb => ?_, fun i hi => ?_, fun i hij hi => ?_⟩
    · have := h1 e he
      simpa [hb] using this
    · rcases Nat.lt_or_ge i j with h' | h'
      · exact h'
      · have : (bef.getD j 0).testBit i = false := Nat.testBit_lt_two_pow (Nat.lt_of_lt_of_le h2 (Nat.pow_le_pow_right (by omega) h'))
        unfold Bef at hi
        rw [this] at hi
        cases hi
    · have := h3 i (by simpa using hij)
      rw [befB_iff.2 hi] at this
      simp only [Bool.not_true, Bool.false_or, List.any_eq_true, Bool.and_eq_true, Bool.or_eq_true, beq_iff_eq] at this
      obtain ⟨e, he, hb, h4⟩ := this
      exact ⟨e, he, hb, h4⟩
  refine ⟨fun j o ho i hi => (parts j o ho).2.2 i ((parts j o ho).2.1 i hi) hi, fun j o ho => (parts j o ho).1, ?_, ?_, ?_⟩
  · intro i j oi oj t hi hj h1 h2
    apply Classical.byContradiction
    intro hne
    have := (one j oj hj).2 i oi hne hi
    unfold regTwoB at this
    rw [h1] at this
    simp [h2] at this
  · intro i j oi oj t hne hi hj h1 h2
    have := (one j oj hj).2 i oi hne hi
    unfold regTwoB at this
    rw [h1] at this
    have hc : (oj.looksAt ops).contains t = true := by simpa using h2
    simp only [hc, Bool.and_eq_true, Bool.not_true, Bool.false_or, Bool.or_eq_true] at this
    exact this.1.2
  · intro i j oi oj hlt hi hj h1 h2
    have := (one j oj hj).2 i oi (by omega) hi
    unfold regTwoB at this
    simp only [Bool.and_eq_true, Bool.or_eq_true] at this
    exact befB_iff.1 (by simpa [hlt, h1, h2] using this.2)

theorem veqCell_eq {x y : Value} (h : veqCell x y = true) : x = y := by
  unfold veqCell at h
  split at h <;> simp_all

theorem veqList_eq : ∀ {xs ys : List Value}, veqList xs ys = true → xs = ys
  | [], [], _ => rfl
  | x :: r, y :: s, h => by
    simp only [veqList, Bool.and_eq_true] at h
    rw [veqCell_eq h.1, veqList_eq h.2]
  | [], _ :: _, h => by simp [veqList] at h
  | _ :: _, [], h => by simp [veqList] at h

theorem veq_eq {x y : Value} (h : veq x y = true) : x = y := by
  unfold veq at h
  split at h
  · have := veqList_eq h
    rw [Array.toList_inj.1 this]
  · exact veqCell_eq h

/-- What is read of a block that stands there still. -/
theorem shown_ext {sz n : Nat} {x : Value} {m m2 : Mem} {cs : List Value} (hx : ∀ i b, m.get i = some b → m2.get i = some b) (h : shown sz n x m = some cs) : shown sz n x m2 = some cs := by
  unfold shown at h ⊢
  split at h
  · exact h
  · split at h
    · rename_i hn; simp only [hn, if_true]; exact h
    · rename_i hn
      rw [if_neg hn]
      split at h
      · rename_i hg
        rw [hx _ _ hg]
        exact h
      · cases h
  · cases h

theorem convert_ext {src dst el : TypeId} {v x : Value} {m m1 m2 : Mem} (hs : P.underlying src = some (.slice el)) (hx : ∀ i b, m.get i = some b → m2.get i = some b) (e : opConvert P src dst v m = some (x, m1)) :
    opConvert P src dst v m2 = some (x, m2) := by
  cases hd : P.underlying dst with
  | none => simp [opConvert, hs, hd] at e
  | some dd =>
    cases dd
    case int k =>
      cases v
      case int k' n => simp [opConvert, hs, hd] at e ⊢; exact e.1
      all_goals (simp [opConvert, hs, hd] at e)
    case string =>
      cases v
      case string s => simp [opConvert, hs, hd] at e ⊢; exact e.1
      case slice a n z =>
        simp only [opConvert, hs, hd] at e ⊢
        split at e
        · rename_i hu
          split at e
          · rename_i cs hsh
            simp only [shown_ext hx hsh]
            split at e
            · obtain ⟨rfl, _⟩ := Prod.mk.inj (Option.some.inj e); rfl
            · cases e
          · cases e
        · cases e
      all_goals (simp [opConvert, hs, hd] at e)
    case slice e2 =>
      cases v
      case slice a n z =>
        cases a with
        | none => simp [opConvert, hs, hd] at e
        | some a =>
          obtain ⟨i, off, sp⟩ := a
          cases sp with
          | some sp => simp [opConvert, hs, hd] at e
          | none =>
            simp only [opConvert, hs, hd] at e ⊢
            split at e
            · rename_i hq hu hg
              rw [hx _ _ hg]
              split at e
              · rename_i hn
                obtain ⟨rfl, _⟩ := Prod.mk.inj (Option.some.inj e)
                simp only [hq, hu, hn, if_true]
              · cases e
            · cases e
      all_goals (simp [opConvert, hs, hd] at e)
    all_goals (cases v <;> simp [opConvert, hs, hd] at e)

theorem mapAt_ext {m m2 : Mem} (hx : ∀ i b, m.get i = some b → m2.get i = some b) {x : Value} {es : List (Value × Value)} (h : mapAt m x = some es) : mapAt m2 x = some es := by
  unfold mapAt at h ⊢
  split at h
  · exact h
  · split at h
    · rename_i hg
      rw [hx _ _ hg]
      exact h
    · cases h
  · cases h
theorem lookup_ext {m m2 : Mem} (hx : ∀ x es, mapAt m x = some es → mapAt m2 x = some es) {t : TypeId} {x k v : Value} {two : Bool} (h : opLookup P t x k two m = some v) : opLookup P t x k two m2 = some v := by
  unfold opLookup at h ⊢
  split at h
  · split at h
    · rename_i he
      rw [hx _ _ he]
      exact h
    · cases h
  · cases h
theorem mapLen_ext {m m2 : Mem} (hx : ∀ x es, mapAt m x = some es → mapAt m2 x = some es) {t : Option TypeId} {x v : Value} (h : opMapLen P t x m = some v) : opMapLen P t x m2 = some v := by
  unfold opMapLen at h ⊢
  split at h
  · cases h
  · split at h
    · split at h
      · rename_i he
        rw [hx _ _ he]
        exact h
      · cases h
    · cases h

theorem reads_ext {env : Env} {o : Op} {x : Value} {m m1 m2 : Mem} (hr : readsMemP P o = true) (hx : ∀ i b, m.get i = some b → m2.get i = some b) (e : evOp P env o m = some (x, m1)) : evOp P env o m2 = some (x, m2) := by
  cases o <;> first | (cases hr; done) | skip
  case load t a =>
    simp only [evOp] at e ⊢
    split at e
    · rename_i v hv
      obtain ⟨h1, _⟩ := keep_mem e
      have : opLoad P t v m2 = some x := by
        unfold opLoad at h1 ⊢
        split at h1
        · split at h1
          · rename_i hg
            rw [hx _ _ hg]
            exact h1
          · cases h1
        · cases h1
      simp only [this]
      rfl
    · cases e
  case lookup t a k two =>
    simp only [evOp] at e ⊢
    split at e
    · obtain ⟨h1, _⟩ := keep_mem e
      simp only [lookup_ext (fun x es => mapAt_ext hx) h1]
      rfl
    · cases e
  case call c =>
    obtain ⟨callee, args, ts⟩ := c
    cases callee with
    | builtin b =>
      cases b
      case len =>
        simp only [evOp] at e ⊢
        split at e
        · obtain ⟨h1, _⟩ := keep_mem e
          simp only [mapLen_ext (fun x es => mapAt_ext hx) h1]
          rfl
        · cases e
      all_goals cases e
    | value f => cases e
    | invoke r n => cases e
  case convert src dst y =>
    simp only [readsMemP] at hr
    split at hr
    · rename_i el hs
      simp only [evOp] at e ⊢
      split at e
      · exact convert_ext hs hx e
      · cases e
    · cases hr

theorem calm_at {call : CallF} {ops : Array Oper} {E : Nat → Env} {M : Nat → Mem} {V : Nat → Option Value} {bef : Array Nat} (hcall : CallGrow call) (T : Walk P call ops E M V) (R : RegOk ops bef) (hfr : ∀ i, (M 0).next ≤ i → (M 0).get i = none) {j : Nat} (hs : tidyAt P ops bef j = true) {o : Oper} {x : Value} {p : Nat} (ho : ops[j]? = some o) (hv : V j = some x) (hr : readsMemP P o.op = true) (hp : p ≤ ops.size) (hpw : p < ops.size → Wr ops V p)
    (hq : ∀ q, Wr ops V q → q ≠ j → (q < p → ¬ Bef bef j q) ∧ (p ≤ q → ¬ Bef bef q j)) : ∃ m2, evOp P (E j) o.op (M p) = some (x, m2) := by
  have lt : ∀ {j : Nat} {o : Oper}, ops[j]? = some o → j < ops.size := by
    intro j o ho
    rcases Nat.lt_or_ge j ops.size with h' | h'
    · exact h'
    · rw [Array.getElem?_eq_none h'] at ho; cases ho
  have hj := lt ho
  have hord : ∀ q, Wr ops V q → (q < p → q < j) ∧ (p ≤ q → j < q) := by
    intro q hw
    obtain ⟨oq, hoq, hwq, _⟩ := hw
    have hne : q ≠ j := by
      rintro rfl
      rw [ho] at hoq
      obtain rfl := Option.some.inj hoq
      rw [reads_still hr] at hwq
      cases hwq
    have h1 := hs
    unfold tidyAt at h1
    rw [ho] at h1
    simp only [hr, Bool.not_true, Bool.false_or, List.all_eq_true] at h1
    have h2 := h1 q (by simpa using lt hoq)
    rw [hoq] at h2
    simp only [hwq, Bool.not_true, Bool.false_or, Bool.or_eq_true] at h2
    obtain ⟨h3, h4⟩ := hq q ⟨oq, hoq, hwq, by assumption⟩ hne
    refine ⟨fun h => ?_, fun h => ?_⟩
    · rcases h2 with h2 | h2
      · exact R.lt j o ho q h2
      · exact absurd h2 (h3 h)
    · rcases h2 with h2 | h2
      · exact absurd h2 (h4 h)
      · exact R.lt q oq hoq j h2
  have hjp : j ≤ p := by
    rcases Nat.lt_or_ge p j with h | h
    · have := (hord p (hpw (by omega))).2 (Nat.le_refl _)
      omega
    · exact h
  have hno : ∀ q, j ≤ q → q < p → ¬ Wr ops V q := fun q h1 h2 hw => by
    have := (hord q hw).1 h2
    omega
  have hstep := T.step j o x ho hv
  rw [reads_step hr] at hstep
  refine ⟨_, reads_ext hr ?_ hstep⟩
  intro i b hb
  by_cases hlt : i < (M j).next
  · have hg := (T.grow hcall p hp j hjp).next
    rw [(T.quiet hcall j p hjp hp hno i (by omega)).1 hlt]
    exact hb
  · rw [T.fresh hcall hfr (k := j) (by omega) i (by omega)] at hb
    cases hb

theorem calm_tidy {call : CallF} {ops : Array Oper} {E : Nat → Env} {M : Nat → Mem} {V : Nat → Option Value} {bef : Array Nat} (hcall : CallGrow call) (T : Walk P call ops E M V) (R : RegOk ops bef) (hfr : ∀ i, (M 0).next ≤ i → (M 0).get i = none) (hs : tidyB P ops bef = true) : Calm P ops E M V bef := by
  intro j o x p ho hv hr hp hpw hq
  have hj : j < ops.size := by
    rcases Nat.lt_or_ge j ops.size with h' | h'
    · exact h'
    · rw [Array.getElem?_eq_none h'] at ho; cases ho
  unfold tidyB at hs
  rw [List.all_eq_true] at hs
  exact calm_at hcall T R hfr (hs j (by simpa using hj)) ho hv hr hp hpw hq

theorem calm_of {call : CallF} {ops : Array Oper} {E : Nat → Env} {M : Nat → Mem} {V : Nat → Option Value} {tr : Tr} {f : Mem} (hcall : CallGrow call) (T : Walk P call ops E M V) (R : RegOk ops (Region.before ops)) (hfr : ∀ i, (M 0).next ≤ i → (M 0).get i = none) (hl : tr.length = ops.size) (hf : M ops.size = f)
    (ht : ∀ k, k < ops.size → tr[k]? = some (E k, M k, V k)) (h : steady P ops tr f = true) : Calm P ops E M V (Region.before ops) := by
  intro j o x p ho hv hr hp hpw hq
  have lt : ∀ {j : Nat} {o : Oper}, ops[j]? = some o → j < ops.size := by
    intro j o ho
    rcases Nat.lt_or_ge j ops.size with h' | h'
    · exact h'
    · rw [Array.getElem?_eq_none h'] at ho; cases ho
  unfold steady at h
  rw [List.all_eq_true] at h
  have hj := h j (by simpa using lt ho)
  rw [ho, ht j (lt ho)] at hj
  simp only [hv, hr, Bool.not_true, Bool.false_or, Bool.or_eq_true, List.all_eq_true] at hj
  rcases hj with hj | hj
  · exact calm_at hcall T R hfr hj ho hv hr hp hpw hq
  have hw : ∀ i, i ∈ writersOf ops tr ↔ Wr ops V i := by
    intro i
    unfold writersOf
    rw [List.mem_filter]
    constructor
    · rintro ⟨h1, h2⟩
      have hi : i < ops.size := by simpa using h1
      rw [Array.getElem?_eq_getElem hi, ht i hi] at h2
      refine ⟨ops[i], Array.getElem?_eq_getElem hi, ?_, ?_⟩
      · cases hvi : V i with
        | none => rw [hvi] at h2; cases h2
        | some v => rw [hvi] at h2; exact h2
      · cases hvi : V i with
        | none => rw [hvi] at h2; cases h2
        | some v => rfl
    · rintro ⟨oi, h1, h2, h3⟩
      refine ⟨by simpa using lt h1, ?_⟩
      rw [h1, ht i (lt h1)]
      cases hvi : V i with
      | none => rw [hvi] at h3; cases h3
      | some v => exact h2
  have hmem : p ∈ writersOf ops tr ++ [ops.size] := by
    rw [List.mem_append]
    rcases Nat.lt_or_ge p ops.size with h' | h'
    · exact .inl ((hw p).2 (hpw h'))
    · exact .inr (by simp; omega)
  have hjp := hj p hmem
  have hst : mayStand (Region.before ops) (writersOf ops tr) j p = true := by
    unfold mayStand
    rw [List.all_eq_true]
    intro q hqm
    have hqw := (hw q).1 hqm
    have hne : q ≠ j := by
      rintro rfl
      obtain ⟨o', h1, h2, _⟩ := hqw
      rw [ho] at h1
      obtain rfl := Option.some.inj h1
      rw [reads_still hr] at h2
      cases h2
    obtain ⟨h1, h2⟩ := hq q hqw hne
    split
    · rename_i hlt
      have := h1 hlt
      simpa [Bef] using this
    · rename_i hge
      have := h2 (by omega)
      simpa [Bef] using this
  have this := hjp
  rw [hst] at this
  have hat : memAt tr f p = M p := by
    unfold memAt
    rcases Nat.lt_or_ge p ops.size with h' | h'
    · rw [ht p h']
    · have hpe : p = ops.size := by omega
      rw [List.getElem?_eq_none (by omega), hpe, hf]
  rw [hat] at this
  simp only [Bool.not_true, Bool.false_eq_true, false_or] at this
  split at this
  · rename_i y m2 hy
    rw [veq_eq this]
    exact ⟨m2, hy⟩
  · cases this

theorem traceOps_of_run {call : CallF} {ops : Array Oper} : ∀ {l : List Nat} {env : Env} {m : Mem} {e : Env} {f : Mem}, runOps P call ops l env m = some (e, f) → ∃ tr, traceOps P call ops l env m = some (tr, e, f)
  | [], env, m, e, f, h => by
    obtain ⟨rfl, rfl⟩ := Prod.mk.inj (Option.some.inj h)
    exact ⟨[], rfl⟩
  | i :: r, env, m, e, f, h => by
    simp only [runOps] at h
    simp only [traceOps]
    split at h
    · cases h
    · rename_i o ho
      split at h
      · rename_i hg
        split at h
        · rename_i v m1 hs
          obtain ⟨tr, ht⟩ := traceOps_of_run h
          exact ⟨(env, m, some v) :: tr, by simp only [ht]⟩
        · cases h
      · rename_i hg
        obtain ⟨tr, ht⟩ := traceOps_of_run h
        exact ⟨(env, m, none) :: tr, by simp only [ht]⟩
      · cases h

theorem runRegion_ok {call : CallF} (hm : P.follows .mixedOrders = true) (hcall : CallOk P call) {id : Nat} {ops : Array Oper} {draw : Bool} {N : Nat} (hN : ∀ (i : Nat) (o : Oper) (t : Nat), ops[i]? = some o → o.dst = some t → t < N)
    (hr : draw = true → RegOk ops (Region.before ops)) {env : Env} {m : Mem} {e : Env} {m' : Mem} (h : runRegion P call ops draw env m = some (e, m')) :
    Grow m m' ∧ ∀ {a : Act} {w : World} {β : Ren} {Q : Exit → Act → World → Prop}, ERel β N env a → WRel P β m w → Free β m m' →
      (∀ a' w' β', ERel β' N e a' → a'.defers = a.defers → Post P β m w m' β' w' → Q .normal a' w') → (Code.region id ops draw).wp P Q a w := by
  have walk : ∀ {tr : Tr}, traceOps P call ops (List.range ops.size) env m = some (tr, e, m') → (tidyB P ops (Region.before ops) = true ∨ steady P ops tr m' = true) → draw = true →
      Grow m m' ∧ ∀ {a : Act} {w : World} {β : Ren} {Q : Exit → Act → World → Prop}, ERel β N env a → WRel P β m w → Free β m m' →
      (∀ a' w' β', ERel β' N e a' → a'.defers = a.defers → Post P β m w m' β' w' → Q .normal a' w') → (Code.region id ops draw).wp P Q a w := by
    intro tr ht hs hd
    subst hd
    obtain ⟨E', M, V, rfl, rfl, rfl, rfl, h5, h6, h7⟩ := traceOps_spec ht
    simp only [List.length_range] at *
    have T : Walk P call ops E' M V := by
      have key : ∀ k o, ops[k]? = some o → k < ops.size ∧ _ := fun k o ho => by
        have hk : k < ops.size := by
          rcases Nat.lt_or_ge k ops.size with h' | h'
          · exact h'
          · rw [Array.getElem?_eq_none h'] at ho; cases ho
        have := h7 k k (by simp [hk])
        rw [ho] at this
        exact ⟨hk, this⟩
      refine ⟨fun k o ho => ?_, fun k o v ho => ?_, fun k o ho => ?_, fun k o ho => ?_⟩ <;>
        (obtain ⟨_, o', h1, h2, h3, h4, h5⟩ := key k o ho
         obtain rfl := Option.some.inj h1)
      · exact h2
      · exact h3 v
      · exact h4
      · exact h5
    refine ⟨T.grow hcall.gr ops.size (Nat.le_refl _) 0 (by omega), fun E W hF K => ?_⟩
    refine region_any hm hcall (hr trivial) T hN ?_ E W hF K
    rcases hs with hs | hs
    · exact calm_tidy hcall.gr T (hr trivial) W.fresh hs
    · exact calm_of hcall.gr T (hr trivial) W.fresh h5 rfl h6 hs
  unfold runRegion at h
  split at h
  · exact ⟨runOps_grow hcall.gr h, fun E W hF K => wp_region (runOps_ok hcall hN E W hF h K)⟩
  · split at h
    · rename_i hst
      obtain ⟨tr, ht⟩ := traceOps_of_run h
      exact walk ht (.inl hst) rfl
    · split at h
      · rename_i tr e1 f1 ht
        split at h
        · rename_i hs
          obtain ⟨rfl, rfl⟩ := Prod.mk.inj (Option.some.inj h)
          exact walk ht (.inr hs) rfl
        · cases h
      · cases h
end Go.AM
