/- A region whose order is open: each step, all steps. -/
import Derived.Test.YtbnmmfgidbhpeaaAmSound12
set_option linter.unusedSimpArgs false
set_option linter.unusedVariables false
namespace Go.AM
open Go

section
variable {P : Program} {call : CallF} {ops : Array Oper} {E : Nat → Env} {M : Nat → Mem} {V : Nat → Option Value} {bef : Array Nat} {N : Nat}
variable {β0 : Ren} {w0 : World} {d0 : List Deferred} {S : Array Bool} {a : Act} {w : World} {β : Ren} {p : Nat}

/-- What is read is the same wherever the reading may stand. -/
def Calm (P : Program) (ops : Array Oper) (E : Nat → Env) (M : Nat → Mem) (V : Nat → Option Value) (bef : Array Nat) : Prop :=
  ∀ (j : Nat) (o : Oper) (x : Value) (p : Nat), ops[j]? = some o → V j = some x → readsMemP P o.op = true → p ≤ ops.size → (p < ops.size → Wr ops V p) →
    (∀ q, Wr ops V q → q ≠ j → (q < p → ¬ Bef bef j q) ∧ (p ≤ q → ¬ Bef bef q j)) → ∃ m2, evOp P (E j) o.op (M p) = some (x, m2)

theorem reads_step {o : Op} {env : Env} {m : Mem} (hr : readsMemP P o = true) : stepOp P call env o m = evOp P env o m := by
  revert hr; cases o <;> simp [readsMemP, stepOp]

theorem reads_still {o : Op} (hr : readsMemP P o = true) : writes o = false := by
  revert hr; cases o <;> simp [readsMemP, writes]

theorem Inv.part (I : Inv P ops E M V bef N β0 w0 d0 S a w β p) (hcall : CallGrow call) (T : Walk P call ops E M V) (hfr : ∀ i, (M 0).next ≤ i → (M 0).get i = none) {k : Nat} (hk : k ≤ ops.size) {g : Nat → Option Blk}
    (hg : ∀ i b, g i = some b → i < (M k).next ∧ (memX M ops.size p).get i = some b) : WRel P β { get := g, next := (M k).next } w := by
  refine ⟨fun i b L h1 h2 => I.rel.blk i b L (hg i b h1).2 h2, fun i j bi bj L L' h1 h2 h3 h4 e => I.rel.inj i j bi bj L L' (hg i bi h1).2 (hg j bj h2).2 h3 h4 e, fun i b L h1 h2 => I.rel.dom i b L (hg i b h1).2 h2, fun i hi => ?_⟩
  cases h : g i with
  | none => exact h
  | some b =>
    have := (hg i b h).1
    simp only at hi
    omega

theorem Walk.fresh (hcall : CallGrow call) (T : Walk P call ops E M V) (hfr : ∀ i, (M 0).next ≤ i → (M 0).get i = none) {k : Nat} (hk : k ≤ ops.size) : ∀ i, (M k).next ≤ i → (M k).get i = none :=
  (T.grow hcall k hk 0 (by omega)).fresh hfr

theorem Walk.sub (hcall : CallGrow call) (T : Walk P call ops E M V) (hfr : ∀ i, (M 0).next ≤ i → (M 0).get i = none) (hp : p ≤ ops.size) {i : Nat} {b : Blk} (h : (M p).get i = some b) : i < (M p).next ∧ (memX M ops.size p).get i = some b := by
  have : i < (M p).next := by
    rcases Nat.lt_or_ge i (M p).next with h' | h'
    · exact h'
    · rw [T.fresh hcall hfr hp i h'] at h; cases h
  refine ⟨this, ?_⟩
  simp only [memX]
  rw [if_pos this, h]

theorem Inv.now (I : Inv P ops E M V bef N β0 w0 d0 S a w β p) (hcall : CallGrow call) (T : Walk P call ops E M V) (hfr : ∀ i, (M 0).next ≤ i → (M 0).get i = none) : WRel P β (M p) w :=
  I.part hcall T hfr I.hp (g := (M p).get) fun _ _ h => T.sub hcall hfr I.hp h

/-- An operation that writes nothing. -/
theorem Inv.next0 (I : Inv P ops E M V bef N β0 w0 d0 S a w β p) (hcall : CallGrow call) (R : RegOk ops bef) (T : Walk P call ops E M V) (hN : ∀ (i : Nat) (o : Oper) (t : Nat), ops[i]? = some o → o.dst = some t → t < N)
    {j : Nat} {o : Oper} (ho : ops[j]? = some o) (hj : j < ops.size) (hn : ¬ In S j) (hr : ∀ e ∈ o.after.toList, Region.binds .any e = true → In S e.on) (hw : ¬ Wr ops V j)
    {A A' : Mem} {β' : Ren} {w' : World} {v : Value} (hA : ∀ i b, A.get i = some b → (memX M ops.size p).get i = some b)
    (hrange : A.next = (M j).next ∧ A'.next = (M (j + 1)).next ∨ A.next = A'.next) (hchain : ∀ i b, i < (M 0).next → A.get i = some b → b.own = true → ∃ b0, (M 0).get i = some b0 ∧ b0.own = true)
    (hpost : Post P β A w A' β' w') (hFA : Free β A A') (hgr : Grow A A') (hv : VRel β' (val V j) v)
    (hm : ∀ i b, (memX M ops.size p).get i = some b → β' i = none ∨ A'.get i = some b ∨ ((memX M ops.size p).get i = some b ∧ A.get i = none ∧ (i < A.next ∨ A'.next ≤ i))) :
    Inv P ops E M V bef N β0 w0 d0 (S.setIfInBounds j true) (a.put o.dst v) w' β' p := by
  have hle := hpost.ext hFA
  refine I.next hcall R T hN ho hj hn hr hA hrange hchain hpost hFA hgr hv I.hp (fun i h1 h2 => .inl (I.lo i h1 h2)) I.hi ?_ ?_ hm
  · intro i h1 h2 h3
    rcases h3 with h3 | rfl
    · exact I.hi2 i h1 h2 h3
    · exact hw h2
  · intro i h1 h2
    refine I.low i h1 ?_
    cases hb : β i with
    | none => rfl
    | some L => rw [hle i L hb] at h2; cases h2

/-- An operation that leaves the memory's outline. -/
theorem Inv.next1 (I : Inv P ops E M V bef N β0 w0 d0 S a w β p) (hcall : CallGrow call) (R : RegOk ops bef) (T : Walk P call ops E M V) (hN : ∀ (i : Nat) (o : Oper) (t : Nat), ops[i]? = some o → o.dst = some t → t < N)
    (hfr : ∀ i, (M 0).next ≤ i → (M 0).get i = none)
    {j : Nat} {o : Oper} (ho : ops[j]? = some o) (hj : j < ops.size) (hn : ¬ In S j) (hr : ∀ e ∈ o.after.toList, Region.binds .any e = true → In S e.on) (hw : ¬ Wr ops V j)
    {β' : Ren} {w' : World} {v : Value} (hpost : Post P β (M p) w (M p) β' w') (hv : VRel β' (val V j) v) :
    Inv P ops E M V bef N β0 w0 d0 (S.setIfInBounds j true) (a.put o.dst v) w' β' p := by
  refine I.next0 hcall R T hN ho hj hn hr hw (fun i b h => (T.sub hcall hfr I.hp h).2) (.inr rfl) ?_ hpost (fun i h1 h2 => by omega) (Grow.refl _) hv ?_
  · intro i b h1 h2 h3
    obtain ⟨b0, h4, h5⟩ := (T.grow hcall p I.hp 0 (by omega)).dom i b h1 h2
    exact ⟨b0, h4, h5 h3⟩
  · intro i b h
    by_cases hi : i < (M p).next
    · refine .inr (.inl ?_)
      simp only [memX] at h
      rwa [if_pos hi] at h
    · exact .inr (.inr ⟨h, T.fresh hcall hfr I.hp i (by omega), .inr (by omega)⟩)

theorem Inv.step (I : Inv P ops E M V bef N β0 w0 d0 S a w β p) (hcall : CallOk P call) (R : RegOk ops bef) (T : Walk P call ops E M V) (hN : ∀ (i : Nat) (o : Oper) (t : Nat), ops[i]? = some o → o.dst = some t → t < N)
    (hfr : ∀ i, (M 0).next ≤ i → (M 0).get i = none) (C : Calm P ops E M V bef) {Q : Exit → Act → World → Prop} {j : Nat} (hready : j ∈ Region.ready .any ops S) :
    wpOp P ops Q j (fun a w => ∃ β p, Inv P ops E M V bef N β0 w0 d0 (S.setIfInBounds j true) a w β p) a w := by
  obtain ⟨o, ho, hj, hn, hr⟩ := mem_ready hready I.sz
  have hE := I.erel R T ho hj hn hr
  have hW := I.now hcall.gr T hfr
  have hg := guard_wanted hE (seen_guard.trans (T.guard j o ho))
  have hmono : ∀ a b, a ≤ b → b ≤ ops.size → (M a).next ≤ (M b).next := fun a b h1 h2 => (T.grow hcall.gr b h2 a h1).next
  simp only [wpOp, ho]
  cases hv : V j with
  | none =>
    rw [hv] at hg
    rw [if_neg (by rw [hg]; simp)]
    have hw : ¬ Wr ops V j := fun ⟨o', _, _, h3⟩ => by rw [hv] at h3; cases h3
    refine ⟨β, p, I.next1 hcall.gr R T hN hfr ho hj hn hr hw (Post.refl hW) ?_⟩
    simp only [val, hv, Option.getD_none]
    exact undef_rel
  | some x =>
    rw [hv] at hg
    rw [if_pos (by rw [hg]; rfl)]
    refine .inl ?_
    have hs := T.step j o x ho hv
    have hval : val V j = x := by simp [val, hv]
    by_cases hwr : writes o.op = true
    · -- the next writer
      have hWj : Wr ops V j := ⟨o, ho, hwr, by simp [hv]⟩
      have hpj : p = j := by
        rcases Nat.lt_trichotomy p j with h | h | h
        · obtain ⟨op, h1, h2, h3⟩ := I.hi (by omega)
          exact absurd (I.ahead R ho hr p (R.wr p j op o h h1 ho h2 hwr)) (I.hi2 p (Nat.le_refl _) ⟨op, h1, h2, h3⟩)
        · exact h
        · exact absurd (I.lo j h hWj) hn
      subst hpj
      have hFj : Free β (M p) (M (p + 1)) := I.un p o ho hn
      refine stepOp_wp hcall hE hW hFj (seen_step.trans hs) ?_
      intro v w' β' hvr hpost
      obtain ⟨p', h1, h2, h3, h4⟩ := next_writer (Wr ops V) ops.size _ (p + 1) rfl (by omega)
      have hle := hpost.ext hFj
      have hq := T.quiet hcall.gr (p + 1) p' h1 h2 h3
      refine ⟨β', p', I.next hcall.gr R T hN ho hj hn hr (fun i b h => (T.sub hcall.gr hfr I.hp h).2) (.inl ⟨rfl, rfl⟩) ?_ hpost hFj (T.grow hcall.gr (p + 1) (by omega) p (by omega)) (by rw [hval]; exact hvr) h2 ?_ h4 ?_ ?_ ?_⟩
      · intro i b h1 h2 h3
        obtain ⟨b0, h4, h5⟩ := (T.grow hcall.gr p I.hp 0 (by omega)).dom i b h1 h2
        exact ⟨b0, h4, h5 h3⟩
      · intro i h5 h6
        by_cases h7 : i < p
        · exact .inl (I.lo i h7 h6)
        · by_cases h8 : i = p
          · exact .inr h8
          · exact absurd h6 (h3 i (by omega) h5)
      · intro i h5 h6 h7
        rcases h7 with h7 | h7
        · exact I.hi2 i (by omega) h6 h7
        · omega
      · intro i h5 h6
        have hbi : β i = none := by
          cases hb : β i with
          | none => rfl
          | some L => rw [hle i L hb] at h6; cases h6
        by_cases h7 : i < (M (p + 1)).next
        · rw [(hq i h5).1 h7]
          by_cases h8 : i < (M p).next
          · rw [hpost.low i h8 hbi]
            exact I.low i h8 hbi
          · rw [initAt_at hmono (by omega) h7 ops.size (by omega) (Nat.le_refl _)]
        · exact (hq i h5).2 (by omega)
      · intro i b h5
        have hXp : ∀ {i}, (M p).next ≤ i → (memX M ops.size p).get i = initAt M ops.size i := fun {i} h => by
          simp only [memX]; rw [if_neg (by omega)]
        by_cases h6 : i < (M p').next
        · have h5' : (M p').get i = some b := by
            simp only [memX] at h5; rwa [if_pos h6] at h5
          by_cases h7 : i < (M (p + 1)).next
          · rw [(hq i h6).1 h7] at h5'
            exact .inr (.inl h5')
          · have h8 := hmono p (p + 1) (by omega) (by omega)
            rw [(hq i h6).2 (by omega)] at h5'
            refine .inr (.inr ⟨by rw [hXp (by omega)]; exact h5', T.fresh hcall.gr hfr I.hp i (by omega), .inr (by omega)⟩)
        · have h5' : initAt M ops.size i = some b := by
            simp only [memX] at h5; rwa [if_neg h6] at h5
          have h8 := hmono p (p + 1) (by omega) (by omega)
          have h9 := hmono (p + 1) p' (by omega) (by omega)
          refine .inr (.inr ⟨by rw [hXp (by omega)]; exact h5', T.fresh hcall.gr hfr I.hp i (by omega), .inr (by omega)⟩)
    · have hw : ¬ Wr ops V j := fun ⟨o', h1, h2, h3⟩ => by
        rw [ho] at h1
        obtain rfl := Option.some.inj h1
        exact hwr h2
      by_cases hrd : readsMemP P o.op = true
      · -- what reads
        obtain ⟨m2, h2⟩ := C j o x p ho hv hrd I.hp I.hi (by
          intro q hq hqj
          refine ⟨fun h3 h4 => hn (I.cl q (I.lo q h3 hq) j h4), fun h3 h4 => I.hi2 q h3 hq (I.ahead R ho hr q h4)⟩)
        obtain rfl := evOp_reads hrd h2
        rw [← reads_step (call := call) hrd] at h2
        refine stepOp_wp hcall hE hW (fun i h1 h2 => by omega) (seen_step.trans h2) ?_
        intro v w' β' hvr hpost
        exact ⟨β', p, I.next1 hcall.gr R T hN hfr ho hj hn hr hw hpost (by rw [hval]; exact hvr)⟩
      · cases stepOp_idle (by simpa using hwr) (by simpa using hrd) hs with
        | same h k =>
          refine stepOp_wp hcall hE hW (fun i h1 h2 => by omega) (seen_step.trans (k (M p))) ?_
          intro v w' β' hvr hpost
          exact ⟨β', p, I.next1 hcall.gr R T hN hfr ho hj hn hr hw hpost (by rw [hval]; exact hvr)⟩
        | new b h k =>
          have hnx : (M (j + 1)).next = (M j).next + 1 := by rw [h]; rfl
          have hbj : initAt M ops.size (M j).next = some b := by
            rw [initAt_at hmono (Nat.le_refl _) (by omega) ops.size (by omega) (Nat.le_refl _), h]
            simp [Mem.new]
          have hXj : (memX M ops.size p).get (M j).next = some b := by
            simp only [memX]
            split
            · rename_i hlt
              rw [I.low _ hlt (I.un j o ho hn _ (Nat.le_refl _) (by omega)), hbj]
            · exact hbj
          let A : Mem := { get := fun i => if i < (M j).next then (memX M ops.size p).get i else none, next := (M j).next }
          have hAget : ∀ i b, A.get i = some b → i < (M j).next ∧ (memX M ops.size p).get i = some b := by
            intro i b hi
            simp only [A] at hi
            split at hi
            · exact ⟨by assumption, hi⟩
            · cases hi
          have hWA : WRel P β A w := I.part hcall.gr T hfr (k := j) (by omega) hAget
          have hFA : Free β A (A.new b) := fun i h1 h2 => I.un j o ho hn i h1 (by simp only [Mem.new, A] at h2; omega)
          refine stepOp_wp hcall hE hWA hFA (seen_step.trans (k A rfl)) ?_
          intro v w' β' hvr hpost
          refine ⟨β', p, I.next0 hcall.gr R T hN ho hj hn hr hw (fun i b h => (hAget i b h).2) (.inl ⟨rfl, by simp [Mem.new, A, hnx]⟩) ?_ hpost hFA (Grow.new _ _) (by rw [hval]; exact hvr) ?_⟩
          · intro i b1 h1 h2 h3
            have h4 := (hAget i b1 h2).2
            have h5 := hmono 0 p (by omega) I.hp
            simp only [memX] at h4
            rw [if_pos (by omega)] at h4
            obtain ⟨b0, h6, h7⟩ := (T.grow hcall.gr p I.hp 0 (by omega)).dom i b1 h1 h4
            exact ⟨b0, h6, h7 h3⟩
          · intro i b1 h1
            rcases Nat.lt_trichotomy i (M j).next with h2 | h2 | h2
            · refine .inr (.inl ?_)
              have h3 : A.next = (M j).next := rfl
              simp only [Mem.new]
              rw [if_neg (by omega)]
              simp only [A]
              rw [if_pos h2]
              exact h1
            · refine .inr (.inl ?_)
              subst h2
              rw [hXj] at h1
              obtain rfl := Option.some.inj h1
              simp [Mem.new, A]
            · refine .inr (.inr ⟨h1, ?_, .inr ?_⟩)
              · simp only [A]
                rw [if_neg (by omega)]
              · simp only [Mem.new, A]
                omega
end
end Go.AM
