/- What the abstract machine does in one operation, the machine does: values alone. -/
import Derived.Test.YtimjcfaciiimmaaAmRel
import Derived.Laws.Cells
import Derived.Laws.Tables
import Derived.Laws.BytesString
import Derived.Laws.IdiomStrings
import Derived.Laws.CopyRow
import Derived.Laws.Append
set_option linter.unusedSimpArgs false
set_option linter.unusedVariables false
namespace Go.AM
open Go
variable {P : Program} {β : Ren} {m : Mem} {w : World}

def OpOk (P : Program) (β : Ren) (m : Mem) (w : World) (x : Value) (m' : Mem) (s : Result Next) : Prop :=
  ∃ v w' β', (s = .ok (.value v) w' ∨ s = .ok .skip w' ∧ v = undef) ∧ VRel β' x v ∧ Post P β m w m' β' w'

theorem OpOk.same {x v : Value} {s : Result Next} (W : WRel P β m w) (hs : s = .ok (.value v) w) (r : VRel β x v) : OpOk P β m w x m s :=
  ⟨v, w, β, .inl hs, r, Post.refl W⟩

theorem run_tsize {t : TypeId} {n : Nat} (h : tsize P t = some n) : (sizeOf t).run P w = .ok n w := by
  unfold tsize at h
  cases hi : P.info? t with
  | none => rw [hi] at h; cases h
  | some i =>
    rw [hi] at h
    obtain rfl := Option.some.inj h
    simp [sizeOf, typeInfo, hi]

theorem run_tzero {t : TypeId} {z : Value} (h : tzero P t = some z) : (zeroValue t).run P w = .ok z w := by
  unfold tzero at h
  cases hi : P.info? t with
  | none => rw [hi] at h; cases h
  | some i =>
    rw [hi] at h
    simp only [Option.bind_some] at h
    simp [zeroValue, typeInfo, hi, h]

theorem run_tinfo {t : TypeId} {b : Nat} (h : tbytes P t = some b) : ∃ i, (typeInfo t).run P w = .ok i w ∧ i.bytes = b := by
  unfold tbytes at h
  cases hi : P.info? t with
  | none => rw [hi] at h; cases h
  | some i =>
    rw [hi] at h
    obtain rfl := Option.some.inj h
    exact ⟨i, by simp [typeInfo, hi], rfl⟩

theorem run_agg {t : TypeId} {b : Bool} (h : aggOf P t = some b) : (isAgg t).run P w = .ok b w := by
  unfold aggOf at h
  cases hu : P.underlying t with
  | none => rw [hu] at h; cases h
  | some d =>
    rw [hu] at h
    cases d <;> (obtain rfl := Option.some.inj h; simp [isAgg, run_underlying hu])

theorem tsize_esz {t : TypeId} {n : Nat} (h : tsize P t = some n) : esz P t = n := by
  unfold tsize at h
  unfold esz
  rw [h]; rfl

/-- Arrays of cells, one by one. -/
structure ARel (β : Ren) (cs cs' : Array Value) : Prop where
  size : cs.size = cs'.size
  has : ∀ (i : Nat) (x x' : Value), cs[i]? = some x → cs'[i]? = some x' → VRel β x x'
  ok : ∀ (i : Nat) (x : Value), cs[i]? = some x → okCell x = true

theorem ARel.agg {cs cs' : Array Value} (h : ARel β cs cs') : VRel β (.agg cs) (.agg cs') := .agg h.size h.has h.ok

theorem ARel.of_agg {cs : Array Value} {v : Value} (h : VRel β (.agg cs) v) : ∃ cs', v = .agg cs' ∧ ARel β cs cs' := by
  cases h with
  | agg hs h hk => exact ⟨_, rfl, hs, h, hk⟩

theorem ARel.get {cs cs' : Array Value} (h : ARel β cs cs') {i : Nat} {x : Value} (hx : cs[i]? = some x) : ∃ v, cs'[i]? = some v ∧ VRel β x v := by
  have hi : i < cs.size := by
    rcases Nat.lt_or_ge i cs.size with h' | h'
    · exact h'
    · rw [Array.getElem?_eq_none h'] at hx; cases hx
  have hi' : i < cs'.size := h.size ▸ hi
  exact ⟨cs'[i], Array.getElem?_eq_getElem hi', h.has i x _ hx (Array.getElem?_eq_getElem hi')⟩

theorem ARel.one {x v : Value} (r : VRel β x v) (hk : okCell x = true) : ARel β #[x] #[v] := by
  refine ⟨rfl, fun i y y' h1 h2 => ?_, fun i y h1 => ?_⟩
  · cases i with
    | zero => simp at h1 h2; subst h1 h2; exact r
    | succ i => simp at h1
  · cases i with
    | zero => simp at h1; subst h1; exact hk
    | succ i => simp at h1

/-- A value's cells. -/
theorem VRel.cells {x v : Value} (h : VRel β x v) (hk : okVal x = true) : ARel β x.cells v.cells := by
  have h0 := h
  cases h with
  | agg hs h ho => exact ⟨hs, h, ho⟩
  | tuple => cases hk
  | _ => exact ARel.one h0 rfl

theorem ARel.set {cs cs' : Array Value} (h : ARel β cs cs') {x v : Value} (r : VRel β x v) (hk : okCell x = true) (j : Nat) : ARel β (cs.setIfInBounds j x) (cs'.setIfInBounds j v) := by
  refine ⟨by simp [h.size], fun i y y' h1 h2 => ?_, fun i y h1 => ?_⟩
  · rw [Array.getElem?_setIfInBounds] at h1 h2
    split at h1
    · rename_i e
      rw [if_pos e] at h2
      split at h1
      · rename_i e2
        rw [if_pos (by rw [← h.size]; exact e2)] at h2
        obtain rfl := Option.some.inj h1
        obtain rfl := Option.some.inj h2
        exact r
      · cases h1
    · rename_i e
      rw [if_neg e] at h2
      exact h.has i y y' h1 h2
  · rw [Array.getElem?_setIfInBounds] at h1
    split at h1
    · split at h1
      · obtain rfl := Option.some.inj h1; exact hk
      · cases h1
    · exact h.ok i y h1

theorem foldl_rel (off : Nat) : ∀ (xs vs : List Value) (k : Nat) (cs cs' : Array Value), xs.length = vs.length →
    (∀ (i : Nat) (x v : Value), xs[i]? = some x → vs[i]? = some v → VRel β x v) → (∀ (i : Nat) (x : Value), xs[i]? = some x → okCell x = true) → ARel β cs cs' →
    ARel β ((xs.zipIdx k).foldl (fun cs (c : Value × Nat) => cs.setIfInBounds (off + c.2) c.1) cs) ((vs.zipIdx k).foldl (fun cs (c : Value × Nat) => cs.setIfInBounds (off + c.2) c.1) cs')
  | [], [], _, _, _, _, _, _, h => h
  | x :: r, v :: s, k, cs, cs', hl, h, hk, hr => by
    simp only [List.zipIdx_cons, List.foldl_cons]
    exact foldl_rel off r s (k + 1) _ _ (by simpa using hl) (fun i y u h1 h2 => h (i + 1) y u (by simpa using h1) (by simpa using h2)) (fun i y h1 => hk (i + 1) y (by simpa using h1)) (hr.set (h 0 x v rfl rfl) (hk 0 x rfl) _)
  | [], _ :: _, _, _, _, hl, _, _, _ => by simp at hl
  | _ :: _, [], _, _, _, hl, _, _, _ => by simp at hl

theorem fill_rel (place : Nat → Option (Nat × Nat)) : ∀ {parts parts' : List (Nat × Value)} {cs cs' r : Array Value}, PRel β parts parts' → ARel β cs cs' →
    Instr.fill place cs parts = some r → ∃ r', Instr.fill place cs' parts' = some r' ∧ ARel β r r'
  | [], [], cs, cs', r, _, h, e => by obtain rfl := Option.some.inj e; exact ⟨cs', rfl, h⟩
  | (i, x) :: ps, (j, v) :: ps', cs, cs', r, hp, h, e => by
    obtain ⟨h1, h2, h3, h4⟩ := hp
    simp only at h1 h2 h3
    subst h1
    have hc := h2.cells h3
    simp only [Instr.fill] at e ⊢
    split at e
    · cases e
    · rename_i off size hpl
      rw [← hc.size, ← h.size]
      split at e
      · cases e
      · rename_i hn
        rw [if_neg hn]
        refine fill_rel place h4 ?_ e
        rw [← Array.foldl_toList, ← Array.foldl_toList, Array.toList_zipIdx, Array.toList_zipIdx]
        exact foldl_rel off x.cells.toList v.cells.toList 0 cs cs' (by simpa using hc.size)
          (fun i y u h1 h2 => hc.has i y u (by simpa using h1) (by simpa using h2)) (fun i y h1 => hc.ok i y (by simpa using h1)) h
  | [], _ :: _, _, _, _, hp, _, _ => hp.elim
  | _ :: _, [], _, _, _, hp, _, _ => hp.elim

theorem part_rel {t : TypeId} {cs cs' : Array Value} {off : Nat} {x : Value} (h : ARel β cs cs') (e : partOf P t cs off = some x) :
    ∃ v, (part t cs' off).run P w = .ok v w ∧ VRel β x v := by
  unfold partOf at e
  split at e
  · rename_i ha
    split at e
    · rename_i n hn
      obtain rfl := Option.some.inj e
      refine ⟨.agg (cs'.extract off (off + n)), by simp [part, run_agg ha, run_tsize hn], ARel.agg ⟨by simp [h.size], fun i y y' h1 h2 => ?_, fun i y h1 => ?_⟩⟩
      · rw [Array.getElem?_extract] at h1 h2
        split at h1
        · split at h2
          · exact h.has _ _ _ h1 h2
          · cases h2
        · cases h1
      · rw [Array.getElem?_extract] at h1
        split at h1
        · exact h.ok _ _ h1
        · cases h1
    · cases e
  · rename_i ha
    obtain ⟨v, hv, r⟩ := h.get e
    exact ⟨v, by simp [part, run_agg ha, hv], r⟩
  · cases e
end Go.AM

set_option linter.unusedSimpArgs false
set_option linter.unusedVariables false
namespace Go.AM
open Go
variable {P : Program} {β : Ren} {m : Mem} {w : World}

theorem zero_rel {z : Value} (h : zeroOk z = true) : VRel β z z ∧ okVal z = true := by
  simp only [zeroOk, Bool.and_eq_true] at h
  exact ⟨const_rel h.1, h.2⟩

theorem places_run : ∀ {fs : List Field} {ps : List (Nat × Nat)}, places P fs = some ps →
    (List.mapM (fun f => Prod.mk f.offset <$> sizeOf f.type) fs : Sem (List (Nat × Nat))).run P w = .ok ps w
  | [], ps, e => by obtain rfl := Option.some.inj e; rfl
  | f :: r, ps, e => by
    simp only [places] at e
    split at e
    · cases e
    · rename_i s hs
      split at e
      · cases e
      · rename_i l hl
        obtain rfl := Option.some.inj e
        simp [run_tsize hs, places_run hl]

theorem opBuild_rel {t : TypeId} {parts parts' : List (Nat × Value)} {x : Value} (hp : PRel β parts parts') (e : opBuild P t parts = some x) :
    ∃ v, (Instr.build t parts'.toArray).run P w = .ok v w ∧ VRel β x v := by
  unfold opBuild at e
  split at e
  · cases e
  · rename_i z hz
    split at e
    · rename_i hc
      obtain ⟨hr, hk⟩ := zero_rel (β := β) hc
      have hA := hr.cells hk
      split at e
      · rename_i fields hu
        split at e
        · cases e
        · rename_i ps hps
          split at e
          · cases e
          · rename_i cells hf
            obtain rfl := Option.some.inj e
            obtain ⟨r', hr', ha⟩ := fill_rel _ hp hA hf
            refine ⟨.agg r', ?_, ha.agg⟩
            have hm : (Array.mapM (fun f => Prod.mk f.offset <$> sizeOf f.type) fields : Sem (Array (Nat × Nat))).run P w = .ok ps.toArray w := by
              rw [Array.mapM_eq_mapM_toList]
              simp [places_run hps]
            simp [Instr.build, run_tzero hz, run_underlying hu, hm, hr']
      · rename_i n elem hu
        split at e
        · cases e
        · rename_i s hs
          split at e
          · cases e
          · rename_i cells hf
            obtain rfl := Option.some.inj e
            obtain ⟨r', hr', ha⟩ := fill_rel _ hp hA hf
            exact ⟨.agg r', by simp [Instr.build, run_tzero hz, run_underlying hu, run_tsize hs, hr'], ha.agg⟩
      · cases e
    · cases e

theorem intBin_run {op : BinOp} {t : TypeId} {k : IntKind} {a b : Int} {x : Value} (hs : op ≠ .shl) (hs' : op ≠ .shr) (e : intBin op k a b = some x) :
    (binOp op t (.int k a) (.int k b)).run P w = .ok x w ∧ VRel β x x := by
  cases op <;> simp only [intBin] at e <;> first
    | (obtain rfl := Option.some.inj e
       refine ⟨?_, by constructor⟩
       simp only [binOp, ne_eq, not_true_eq_false, if_false]
       rfl)
    | (split at e
       · cases e
       · rename_i h
         obtain rfl := Option.some.inj e
         refine ⟨?_, by constructor⟩
         simp [binOp, Op.intDiv, h])
    | exact absurd rfl hs
    | exact absurd rfl hs'
    | cases e

theorem strBin_run {op : BinOp} {t : TypeId} {a b : ByteArray} {x : Value} (e : strBin op a b = some x) :
    (binOp op t (.string a) (.string b)).run P w = .ok x w ∧ VRel β x x := by
  cases op <;> simp only [strBin] at e <;> first
    | (obtain rfl := Option.some.inj e; exact ⟨by simp [binOp, Op.stringOp], by constructor⟩)
    | (split at e
       · rename_i h
         obtain rfl := Option.some.inj e
         refine ⟨?_, by constructor⟩
         have h' : ¬ ((a.size + b.size : Nat) : Int) > IntKind.i64.max := by simp; omega
         simp only [binOp, Op.stringOp]
         rw [if_neg h']
         rfl
       · cases e)
    | cases e

theorem eqCell_run {t : TypeId} {x y u v : Value} {r : Bool} (hx : VRel β x u) (hy : VRel β y v) (e : eqCell P t x y = some r) (d : Nat) :
    (Op.equalIn (d + 1) t u v).run P w = .ok r w := by
  unfold eqCell at e
  split at e <;> rename_i hu
  · cases hx; cases hy; obtain rfl := Option.some.inj e; simp [Op.equalIn, run_underlying hu]
  · split at e
    · rename_i hk
      subst hk
      cases hx; cases hy; obtain rfl := Option.some.inj e; simp [Op.equalIn, run_underlying hu]
    · cases e
  · cases hx; cases hy; obtain rfl := Option.some.inj e; simp [Op.equalIn, run_underlying hu]
  · cases hx; cases hy <;> (obtain rfl := Option.some.inj e; simp [Op.equalIn, run_underlying hu])
  · cases hx; cases hy; obtain rfl := Option.some.inj e; simp [Op.equalIn, run_underlying hu]
  · cases hx; cases hy <;> (obtain rfl := Option.some.inj e; simp [Op.equalIn, run_underlying hu])
  · cases hy; cases hx <;> (obtain rfl := Option.some.inj e; simp [Op.equalIn, run_underlying hu])
  · cases hx; cases hy <;> (obtain rfl := Option.some.inj e; simp [Op.equalIn, run_underlying hu])
  · cases hx; cases hy; obtain rfl := Option.some.inj e; simp [Op.equalIn, run_underlying hu]
  · cases hx; cases hy; obtain rfl := Option.some.inj e; simp [Op.equalIn, run_underlying hu]
  · cases hx; cases hy; obtain rfl := Option.some.inj e; simp [Op.equalIn, run_underlying hu]
  · cases hx; cases hy; obtain rfl := Option.some.inj e; simp [Op.equalIn, run_underlying hu]
  · cases e

theorem eqFields_run {eq : TypeId → Value → Value → Option Bool} {d : Nat}
    (hEq : ∀ (t : TypeId) (x y u v : Value) (r : Bool), VRel β x u → VRel β y v → eq t x y = some r → (Op.equalIn d t u v).run P w = .ok r w) :
    ∀ {fs : List Field} {xs ys us vs : Array Value} {r : Bool}, ARel β xs us → ARel β ys vs → eqFields P eq fs xs ys = some r →
    (forIn fs ((none, ()) : Option Bool × Unit) (fun f _ => (if f.name ≠ "_" then do
        let a ← part f.type us f.offset
        let b ← part f.type vs f.offset
        let c ← Op.equalIn d f.type a b
        if (!c) = true then pure (ForInStep.done (some false, ())) else pure (ForInStep.yield (none, ()))
      else pure (ForInStep.yield (none, ())) : Sem (ForInStep (Option Bool × Unit)))) : Sem (Option Bool × Unit)).run P w = .ok (if r = true then (none, ()) else (some false, ())) w
  | [], xs, ys, us, vs, r, _, _, e => by obtain rfl := Option.some.inj e; rfl
  | f :: fs, xs, ys, us, vs, r, hx, hy, e => by
    simp only [eqFields] at e
    rw [List.forIn_cons]
    split at e
    · rename_i hn
      simp only [hn, ne_eq, not_true_eq_false, if_false, Sem.run_bind, Sem.run_pure, Result.andThen_ok]
      exact eqFields_run hEq hx hy e
    · rename_i hn
      split at e
      · rename_i x y h1 h2
        obtain ⟨u, hu, ru⟩ := part_rel (w := w) hx h1
        obtain ⟨v, hv, rv⟩ := part_rel (w := w) hy h2
        split at e
        · rename_i h3
          obtain rfl := Option.some.inj e
          have h4 := hEq _ _ _ _ _ _ ru rv h3
          simp [hn, hu, hv, h4]
        · rename_i h3
          have h4 := hEq _ _ _ _ _ _ ru rv h3
          simp only [hn, ne_eq, not_false_eq_true, if_true, Sem.run_bind, hu, hv, h4, Result.andThen_ok, Bool.not_true, Bool.false_eq_true, if_false, Sem.run_pure]
          exact eqFields_run hEq hx hy e
        · cases e
      · cases e

theorem eqIn_run : ∀ (d D : Nat) {t : TypeId} {x y u v : Value} {r : Bool}, d ≤ D → VRel β x u → VRel β y v → eqIn P d t x y = some r → (Op.equalIn D t u v).run P w = .ok r w
  | 0, _, _, _, _, _, _, _, _, _, _, e => by cases e
  | d + 1, 0, _, _, _, _, _, _, hd, _, _, _ => by omega
  | d + 1, D + 1, t, x, y, u, v, r, hd, hx, hy, e => by
    simp only [eqIn] at e
    split at e
    · rename_i fields xs ys hu
      split at e
      · cases e
      · rename_i hs
        obtain ⟨us, rfl, rx⟩ := ARel.of_agg hx
        obtain ⟨vs, rfl, ry⟩ := ARel.of_agg hy
        have h := eqFields_run (P := P) (w := w) (d := D) (fun t x y u v r h1 h2 h3 => eqIn_run d D (by omega) h1 h2 h3) rx ry e
        simp only [Op.equalIn, Sem.run_bind, run_underlying hu, Result.andThen_ok]
        rw [← Array.forIn_toList]
        have hp : (program).run P w = .ok P w := rfl
        rw [hp]
        simp only [Result.andThen_ok]
        rw [if_neg hs]
        simp only [Sem.run_bind, h, Result.andThen_ok]
        cases r <;> rfl
    · cases e
    · exact eqCell_run hx hy e D

theorem eqCell_shape {t : TypeId} {x y u v : Value} {r : Bool} (hx : VRel β x u) (hy : VRel β y v) (e : eqCell P t x y = some r)
    (h1 : ∀ k a k' b, x = .int k a → y = .int k' b → False) (h2 : ∀ a b, x = .string a → y = .string b → False) (X Y : Operand) :
    (eqGuard .eql t X Y u v = pure () ∧ eqGuard .neq t X Y u v = pure ()) ∧ binOp .eql t u v = (do pure (.bool (← Op.equal t u v))) ∧ binOp .neq t u v = (do pure (.bool (!(← Op.equal t u v)))) := by
  unfold eqCell at e
  split at e <;> rename_i hu
  · cases hx; cases hy; exact ⟨⟨rfl, rfl⟩, rfl, rfl⟩
  · exact (h1 _ _ _ _ rfl rfl).elim
  · exact (h2 _ _ rfl rfl).elim
  · cases hx; cases hy <;> exact ⟨⟨rfl, rfl⟩, rfl, rfl⟩
  · cases hx; cases hy; exact ⟨⟨rfl, rfl⟩, rfl, rfl⟩
  · cases hx; cases hy <;> exact ⟨⟨rfl, rfl⟩, rfl, rfl⟩
  · cases hy; cases hx <;> exact ⟨⟨rfl, rfl⟩, rfl, rfl⟩
  · cases hx; cases hy <;> exact ⟨⟨rfl, rfl⟩, rfl, rfl⟩
  · cases hx; cases hy; exact ⟨⟨rfl, rfl⟩, rfl, rfl⟩
  · cases hx; cases hy; exact ⟨⟨rfl, rfl⟩, rfl, rfl⟩
  · cases hx; cases hy; exact ⟨⟨rfl, rfl⟩, rfl, rfl⟩
  · cases hx; cases hy; exact ⟨⟨rfl, rfl⟩, rfl, rfl⟩
  · cases e

theorem binV_rel {op : BinOp} {t : TypeId} {X Y : Operand} {a b u v x : Value} (ha : VRel β a u) (hb : VRel β b v) (e : binV P op t a b = some x) :
    ∃ z, (do eqGuard op t X Y u v; binOp op t u v : Sem Value).run P w = .ok z w ∧ VRel β x z := by
  unfold binV at e
  split at e
  · split at e
    · cases e
    · rename_i h
      cases ha; cases hb
      obtain rfl := Option.some.inj e
      exact ⟨_, by simp [eqGuard, binOp, Op.shift, h]; rfl, by constructor⟩
  · split at e
    · cases e
    · rename_i h
      cases ha; cases hb
      obtain rfl := Option.some.inj e
      exact ⟨_, by simp [eqGuard, binOp, Op.shift, h]; rfl, by constructor⟩
  · rename_i h1 h2
    split at e
    · rename_i h
      subst h
      cases ha; cases hb
      obtain ⟨h3, h4⟩ := intBin_run (β := β) (P := P) (w := w) (t := t) (by rintro rfl; exact h1 rfl) (by rintro rfl; exact h2 rfl) e
      exact ⟨x, by simp only [Sem.run_bind, eqGuard_at_int, Sem.run_pure, Result.andThen_ok]; exact h3, h4⟩
    · cases e
  · cases ha; cases hb
    obtain ⟨h3, h4⟩ := strBin_run (β := β) (P := P) (w := w) (t := t) e
    exact ⟨x, by simp only [Sem.run_bind, eqGuard_at_string, Sem.run_pure, Result.andThen_ok]; exact h3, h4⟩
  · split at e
    · cases e
    · rename_i hg
      split at e
      · rename_i r hr
        obtain rfl := Option.some.inj e
        obtain ⟨us, rfl, ra⟩ := ARel.of_agg ha
        obtain ⟨vs, rfl, rb⟩ := ARel.of_agg hb
        have h : (Op.equal t (.agg us) (.agg vs)).run P w = .ok r w := eqIn_run 40 Op.maxDepth (by decide) ha hb hr
        refine ⟨.bool r, ?_, .bool r⟩
        have hp : (program).run P w = .ok P w := rfl
        simp only [eqGuard, binOp, Sem.run_bind, h, Result.andThen_ok, Sem.run_pure]
        simp [hg, h]
      · cases e
  · split at e
    · cases e
    · rename_i hg
      split at e
      · rename_i r hr
        obtain rfl := Option.some.inj e
        obtain ⟨us, rfl, ra⟩ := ARel.of_agg ha
        obtain ⟨vs, rfl, rb⟩ := ARel.of_agg hb
        have h : (Op.equal t (.agg us) (.agg vs)).run P w = .ok r w := eqIn_run 40 Op.maxDepth (by decide) ha hb hr
        refine ⟨.bool (!r), ?_, .bool _⟩
        simp only [eqGuard, binOp, Sem.run_bind, h, Result.andThen_ok, Sem.run_pure]
        simp [hg, h]
      · cases e
  · rename_i h1 h2 h3
    split at e
    · rename_i r hr
      obtain rfl := Option.some.inj e
      have h : (Op.equal t u v).run P w = .ok r w := eqCell_run ha hb hr 9999
      obtain ⟨⟨h4, _⟩, h5, _⟩ := eqCell_shape ha hb hr h1 h2 X Y
      exact ⟨.bool r, by rw [h4, h5]; simp [h], .bool r⟩
    · cases e
  · rename_i h1 h2 h3
    split at e
    · rename_i r hr
      obtain rfl := Option.some.inj e
      have h : (Op.equal t u v).run P w = .ok r w := eqCell_run ha hb hr 9999
      obtain ⟨⟨_, h4⟩, _, h5⟩ := eqCell_shape ha hb hr h1 h2 X Y
      exact ⟨.bool (!r), by rw [h4, h5]; simp [h], .bool _⟩
    · cases e
  · cases e

theorem unV_rel {op : UnOp} {a u x : Value} (ha : VRel β a u) (e : unV op a = some x) : ∃ z, (Op.unary op u).run P w = .ok z w ∧ VRel β x z := by
  unfold unV at e
  split at e
  · cases ha; obtain rfl := Option.some.inj e; exact ⟨_, rfl, by constructor⟩
  · cases ha; obtain rfl := Option.some.inj e; exact ⟨_, rfl, by constructor⟩
  · cases ha; obtain rfl := Option.some.inj e; exact ⟨_, rfl, by constructor⟩
  · cases e
end Go.AM

set_option linter.unusedSimpArgs false
set_option linter.unusedVariables false
namespace Go.AM
open Go
variable {P : Program} {β : Ren} {m : Mem} {w : World}

theorem addr_add (g o n : Nat) : (⟨g, o, none⟩ : Addr).add n = ⟨g, o + n, none⟩ := by
  unfold Addr.add
  split
  · rename_i h; subst h; rfl
  · rfl

theorem opFieldAddr_rel {s : TypeId} {a u x : Value} {f : Nat} (ha : VRel β a u) (e : opFieldAddr P s a f = some x) :
    ∃ v, (Instr.fieldAt s u f).run P w = .ok v w ∧ VRel β x v := by
  unfold opFieldAddr at e
  split at e
  · rename_i fields i off hu
    split at e
    · rename_i fd hf
      split at e
      · cases e
      · rename_i n hz hn
        obtain rfl := Option.some.inj e
        cases ha with
        | ptr hL =>
          rename_i L
          refine ⟨.pointer (some ⟨L.g, off + L.sh + fd.offset, none⟩), ?_, ?_⟩
          · have hz' : ¬ n = 0 := fun h => hz h
            simp [Instr.fieldAt, run_underlying hu, hf, Instr.sureAddr, fieldPlace, run_tsize hn, hz', addr_add]
          · have := VRel.ptr (β := β) (off := off + fd.offset) hL
            rw [Nat.add_right_comm] at this
            exact this
      · cases e
    · cases e
  · cases e

theorem opField_rel {t : TypeId} {a u x : Value} {f : Nat} (ha : VRel β a u) (e : opField P t a f = some x) :
    ∃ v, (Instr.field t u f).run P w = .ok v w ∧ VRel β x v := by
  unfold opField at e
  split at e
  · rename_i fields cs hu
    split at e
    · rename_i fd hf
      obtain ⟨us, rfl, ra⟩ := ARel.of_agg ha
      obtain ⟨v, hv, r⟩ := part_rel (w := w) ra e
      exact ⟨v, by simp [Instr.field, run_underlying hu, hf, asAgg, hv], r⟩
    · cases e
  · cases e

theorem opIndexAddr_rel {t : TypeId} {a b u v x : Value} (ha : VRel β a u) (hb : VRel β b v) (e : opIndexAddr P t a b = some x) :
    ∃ z, (Instr.indexAt t u v).run P w = .ok z w ∧ VRel β x z := by
  unfold opIndexAddr at e
  split at e
  · rename_i el i off n q k0 k hu
    split at e
    · rename_i s hs
      split at e
      · rename_i hk
        obtain rfl := Option.some.inj e
        cases hb
        cases ha with
        | sliceEmpty => omega
        | slice hL hn hc =>
          rename_i c L
          refine ⟨.pointer (some ⟨L.g, off + L.sh + k.toNat * s, none⟩), ?_, ?_⟩
          · simp [Instr.indexAt, asIntOf, run_underlying hu, hk.1, hk.2, run_tsize hs, addr_add]
          · have := VRel.ptr (β := β) (off := off + k.toNat * s) hL
            rw [Nat.add_right_comm] at this
            exact this
      · cases e
    · cases e
  · rename_i n el i off k0 k hu
    split at e
    · rename_i s hs
      split at e
      · rename_i hk
        obtain rfl := Option.some.inj e
        cases hb
        cases ha with
        | ptr hL =>
          rename_i L
          refine ⟨.pointer (some ⟨L.g, off + L.sh + k.toNat * s, none⟩), ?_, ?_⟩
          · simp [Instr.indexAt, asIntOf, run_underlying hu, Instr.sureAddr, hk.1, hk.2, run_tsize hs, addr_add]
          · have := VRel.ptr (β := β) (off := off + k.toNat * s) hL
            rw [Nat.add_right_comm] at this
            exact this
      · cases e
    · cases e
  · cases e

theorem opIndex_rel {t : TypeId} {a b u v x : Value} (ha : VRel β a u) (hb : VRel β b v) (e : opIndex P t a b = some x) :
    ∃ z, (Instr.index t u v).run P w = .ok z w ∧ VRel β x z := by
  unfold opIndex at e
  split at e
  · rename_i s k0 k hu
    split at e
    · rename_i hk
      split at e
      · rename_i c hc
        obtain rfl := Option.some.inj e
        cases hb; cases ha
        refine ⟨.int .u8 c.toNat, ?_, .int _ _⟩
        have hg : s[k.toNat]? = some c := by
          have := hc
          rw [Array.getElem?_eq_some_iff] at this
          obtain ⟨h1, h2⟩ := this
          have h3 : k.toNat < s.size := h1
          rw [getElem?_pos s k.toNat h3]
          exact congrArg some h2
        simp [Instr.index, asIntOf, run_underlying hu, hk, hg]
      · cases e
    · cases e
  · rename_i n el cs k0 k hu
    split at e
    · rename_i s hs
      split at e
      · rename_i hk
        cases hb
        obtain ⟨us, rfl, ra⟩ := ARel.of_agg ha
        obtain ⟨z, hz, r⟩ := part_rel (w := w) ra e
        exact ⟨z, by simp [Instr.index, asIntOf, run_underlying hu, hk.1, hk.2, run_tsize hs, hz], r⟩
      · cases e
    · cases e
  · cases e

theorem opLen_rel {t : TypeId} {ts : List TypeId} {a u x : Value} {ty : TypeId} (ha : VRel β a u) (e : opLen P (some t) a = some x) :
    (Builtin.len_ (t :: ts).toArray ty #[u]).run P w = .ok x w ∧ VRel β x x := by
  unfold opLen at e
  simp only at e
  split at e
  · rename_i s hu
    cases ha; obtain rfl := Option.some.inj e
    exact ⟨by simp [Builtin.len_, run_underlying hu, goInt], .int _ _⟩
  · rename_i hu
    obtain rfl := Option.some.inj e
    cases ha <;> exact ⟨by simp [Builtin.len_, run_underlying hu, goInt], .int _ _⟩
  · rename_i hu
    obtain rfl := Option.some.inj e
    exact ⟨by simp [Builtin.len_, run_underlying hu, goInt], .int _ _⟩
  · cases e

theorem foldMin_rel : ∀ {xs vs : List Value} {a u x : Value}, VRel β a u → LRel β xs vs → foldV min2V a xs = some x →
    ∃ z, (vs.foldlM Builtin.min2 u).run P w = .ok z w ∧ VRel β x z
  | [], [], a, u, x, ha, _, e => by
    obtain rfl := Option.some.inj e
    exact ⟨u, rfl, ha⟩
  | y :: r, v :: s, a, u, x, ha, h, e => by
    simp only [foldV] at e
    split at e
    · rename_i z hz
      unfold min2V at hz
      split at hz
      · cases ha
        have hy := h.1
        cases hy
        obtain rfl := Option.some.inj hz
        obtain ⟨z, hz, r⟩ := foldMin_rel (.int _ _) h.2 e
        exact ⟨z, by simp [Builtin.min2, hz], r⟩
      · cases hz
    · cases e
  | [], _ :: _, _, _, _, _, h, _ => h.elim
  | _ :: _, [], _, _, _, _, h, _ => h.elim

theorem foldMax_rel : ∀ {xs vs : List Value} {a u x : Value}, VRel β a u → LRel β xs vs → foldV max2V a xs = some x →
    ∃ z, (vs.foldlM Builtin.max2 u).run P w = .ok z w ∧ VRel β x z
  | [], [], a, u, x, ha, _, e => by
    obtain rfl := Option.some.inj e
    exact ⟨u, rfl, ha⟩
  | y :: r, v :: s, a, u, x, ha, h, e => by
    simp only [foldV] at e
    split at e
    · rename_i z hz
      unfold max2V at hz
      split at hz
      · cases ha
        have hy := h.1
        cases hy
        obtain rfl := Option.some.inj hz
        obtain ⟨z, hz, r⟩ := foldMax_rel (.int _ _) h.2 e
        exact ⟨z, by simp [Builtin.max2, hz], r⟩
      · cases hz
    · cases e
  | [], _ :: _, _, _, _, _, h, _ => h.elim
  | _ :: _, [], _, _, _, _, h, _ => h.elim

/-- The machine's cells at the place of a known block. -/
theorem WRel.anyCells {i : Nat} {cs : List Value} {e : TypeId} {own : Bool} {L : Loc} (W : WRel P β m w) (h : m.get i = some (.cells cs e own)) (hL : β i = some L) :
    ∃ c e' fr, w.heap[L.g]? = some (.cells c e' fr) ∧ c.size = L.size ∧ L.sz = esz P e ∧ cs.length + L.sh ≤ c.size ∧ CRel β cs c L.sh := by
  obtain ⟨c, e', fr, h1, _, h2, h3, h4, h5, _⟩ := W.blk i _ L h hL
  exact ⟨c, e', fr, h1, h2, h3, h4, h5⟩

/-- .. of one of the call's own. -/
theorem WRel.cells {i : Nat} {cs : List Value} {e : TypeId} {L : Loc} (W : WRel P β m w) (h : m.get i = some (.cells cs e true)) (hL : β i = some L) :
    ∃ c fr, w.heap[L.g]? = some (.cells c e fr) ∧ c.size = L.size ∧ L.sz = esz P e ∧ cs.length + L.sh ≤ c.size ∧ CRel β cs c L.sh ∧
      (true = true → fr.1 = fr.2 ∨ c.size ≤ fr.1) := by
  obtain ⟨c, e', fr, h1, h0, h2⟩ := W.blk i _ L h hL
  obtain rfl := h0 rfl
  exact ⟨c, fr, h1, h2⟩

theorem cell_of {g : Nat} {c : Array Value} {e : TypeId} {fr : Nat × Nat} (h : w.heap[g]? = some (.cells c e fr)) (j : Nat) : w.cell? ⟨g, j, none⟩ = c[j]? := by
  simp [World.cell?, h]

/-- A stretch of cells, read. -/
theorem loadCells_rel {i off n : Nat} {cs : List Value} {e : TypeId} {own : Bool} {L : Loc} (W : WRel P β m w) (h : m.get i = some (.cells cs e own)) (hL : β i = some L)
    (hn : off + n ≤ cs.length) : ∃ vs : Array Value, (∀ w' : World, w'.heap = w.heap → (loadCells ⟨L.g, off + L.sh, none⟩ n).run P w' = .ok vs w') ∧ ARel β ((cs.drop off).take n).toArray vs := by
  obtain ⟨c, e', fr, h1, h2, h3, h4, h5⟩ := W.anyCells h hL
  have hget : ∀ j, j < n → ∃ x v, cs[off + j]? = some x ∧ okCell x = true ∧ c[off + j + L.sh]? = some v ∧ VRel β x v := by
    intro j hj
    have hj' : off + j < cs.length := by omega
    obtain ⟨a, v, hv, r⟩ := h5 (off + j) cs[off + j] (List.getElem?_eq_getElem hj')
    exact ⟨_, v, List.getElem?_eq_getElem hj', a, hv, r⟩
  refine ⟨((List.range n).map fun j => (c[off + j + L.sh]?).getD undef).toArray, fun w' hw' => ?_, ?_⟩
  · rw [run_loadCells w' _ n (fun j => (c[off + j + L.sh]?).getD undef) (fun j hj => ?_)]
    obtain ⟨x, v, _, _, hv, _⟩ := hget j hj
    rw [addr_add, cell_of (by rw [hw']; exact h1), show off + L.sh + j = off + j + L.sh by omega, hv]
    rfl
  · refine ⟨by simp; omega, fun j x x' hx hx' => ?_, fun j x hx => ?_⟩
    · simp only [List.getElem?_toArray] at hx hx'
      rw [List.getElem?_take] at hx
      split at hx
      · rename_i hj
        obtain ⟨y, v, hy, _, hv, r⟩ := hget j hj
        rw [List.getElem?_drop, hy] at hx
        obtain rfl := Option.some.inj hx
        rw [List.getElem?_map, List.getElem?_range hj] at hx'
        simp only [Option.map_some, hv, Option.getD_some, Option.some.injEq] at hx'
        subst hx'
        exact r
      · cases hx
    · simp only [List.getElem?_toArray] at hx
      rw [List.getElem?_take] at hx
      split at hx
      · rename_i hj
        obtain ⟨y, v, hy, hk, _, _⟩ := hget j hj
        rw [List.getElem?_drop, hy] at hx
        obtain rfl := Option.some.inj hx
        exact hk
      · cases hx

theorem opLoad_rel {t : TypeId} {a u x : Value} (W : WRel P β m w) (ha : VRel β a u) (e : opLoad P t a m = some x) :
    ∃ v, (Instr.loadAt t u).run P w = .ok v w ∧ VRel β x v := by
  unfold opLoad at e
  split at e
  · rename_i i off
    split at e
    · rename_i cs el own hm
      cases ha with
      | ptr hL =>
        rename_i L
        split at e
        · rename_i hg
          split at e
          · rename_i n hn
            split at e
            · rename_i hle
              obtain rfl := Option.some.inj e
              obtain ⟨vs, hvs, r⟩ := loadCells_rel W hm hL hle
              exact ⟨.agg vs, by simp [Instr.loadAt, Instr.sureAddr, loadVar, run_agg hg, run_tsize hn, hvs w rfl], r.agg⟩
            · cases e
          · cases e
        · rename_i hg
          obtain ⟨c, e', fr, h1, h2, h3, h4, h5⟩ := W.anyCells hm hL
          obtain ⟨hk, v, hv, r⟩ := h5 off x e
          refine ⟨v, ?_, r⟩
          have : w.cell? ⟨L.g, off + L.sh, none⟩ = some v := by rw [cell_of h1]; exact hv
          simp [Instr.loadAt, Instr.sureAddr, loadVar, run_agg hg, this]
        · cases e
    · cases e
  · cases e

theorem bound_run {o : Option Value} {ov : Option Value} {d y : Nat} {h : Nat} {code : BoundsCode}
    (hr : match o, ov with | none, none => True | some a, some u => VRel β a u | _, _ => False) (e : boundOf o d = some h) :
    (o = none ∧ ov = none ∧ h = d) ∨ (∃ u, ov = some u ∧ (h ≤ y → (Instr.sliceBound u y code).run P w = .ok h w)) := by
  unfold boundOf at e
  split at e
  · cases ov with
    | none => exact .inl ⟨rfl, rfl, (Option.some.inj e).symm⟩
    | some u => exact hr.elim
  · rename_i k i
    cases ov with
    | none => exact hr.elim
    | some u =>
      cases hr
      split at e
      · rename_i h0
        obtain rfl := Option.some.inj e
        refine .inr ⟨_, rfl, fun hy => ?_⟩
        have : 0 ≤ i ∧ i ≤ (y : Int) := ⟨h0, by omega⟩
        simp [Instr.sliceBound, asIntOf, this.1, this.2]
      · cases e
  · cases e

def ORel (β : Ren) : Option Value → Option Value → Prop
  | none, none => True
  | some a, some u => VRel β a u
  | _, _ => False

theorem evOpt_rel {N : Nat} {env : Env} {a : Act} (h : ERel β N env a) {o : Option Operand} {x : Option Value} (e : evOpt env o = some x) : ORel β x (o.map a.eval) := by
  cases o with
  | none => obtain rfl := Option.some.inj e; trivial
  | some o =>
    simp only [evOpt] at e
    split at e
    · rename_i v hv
      obtain rfl := Option.some.inj e
      exact ev1_rel h hv
    · cases e

theorem bounds_run {lo hi lo' hi' : Option Value} {n c l h : Nat} {b : Bool} (hlo : ORel β lo lo') (hhi : ORel β hi hi') (e1 : boundOf hi n = some h) (e2 : boundOf lo 0 = some l)
    (hlh : l ≤ h) (hc : h ≤ c) : (Instr.sliceBounds b n c lo' hi' none).run P w = .ok (l, h, c) w := by
  have k1 := bound_run (P := P) (w := w) (β := β) (y := c) (code := if b then .sliceAcap else .sliceAlen) (o := hi) (ov := hi') (by cases hi <;> cases hi' <;> exact hhi) e1
  have k2 := bound_run (P := P) (w := w) (β := β) (y := h) (code := .sliceB) (o := lo) (ov := lo') (by cases lo <;> cases lo' <;> exact hlo) e2
  rcases k1 with ⟨rfl, rfl, rfl⟩ | ⟨u, rfl, k1⟩
  · rcases k2 with ⟨rfl, rfl, rfl⟩ | ⟨v, rfl, k2⟩
    · simp [Instr.sliceBounds]
    · simp [Instr.sliceBounds, k2 hlh]
  · rcases k2 with ⟨rfl, rfl, rfl⟩ | ⟨v, rfl, k2⟩
    · simp [Instr.sliceBounds, k1 hc]
    · simp [Instr.sliceBounds, k1 hc, k2 hlh]

theorem opSlice_rel {t : TypeId} {a u x : Value} {lo hi lo' hi' : Option Value} (ha : VRel β a u) (hlo : ORel β lo lo') (hhi : ORel β hi hi') (e : opSlice P t a lo hi = some x) :
    ∃ v, (Instr.sliceAt t u lo' hi' none).run P w = .ok v w ∧ VRel β x v := by
  unfold opSlice at e
  split at e
  · rename_i s hu
    split at e
    · rename_i h l h1 h2
      split at e
      · rename_i hb
        obtain rfl := Option.some.inj e
        cases ha
        have hr := bounds_run (P := P) (w := w) (b := false) hlo hhi h1 h2 hb.1 hb.2
        exact ⟨.string (s.extract l h), by simp [Instr.sliceAt, Instr.slice, run_underlying hu, hr], .string _⟩
      · cases e
    · cases e
  · rename_i el a' n z hu
    split at e
    · rename_i h l h1 h2
      split at e
      · rename_i hb
        split at e
        · split at e
          · rename_i s hs
            obtain rfl := Option.some.inj e
            cases ha
            obtain rfl : h = 0 := by omega
            obtain rfl : l = 0 := by omega
            have hr := bounds_run (P := P) (w := w) (b := true) (c := 0) hlo hhi h1 h2 (Nat.le_refl _) (Nat.le_refl _)
            exact ⟨.slice none 0 0, by simp [Instr.sliceAt, Instr.slice, run_underlying hu, hr, run_tsize hs], .sliceNil⟩
          · cases e
        · rename_i i off
          split at e
          · rename_i hz
            obtain rfl := Option.some.inj e
            cases ha with
            | sliceEmpty hL =>
              obtain rfl : h = 0 := by omega
              obtain rfl : l = 0 := by omega
              have hr := bounds_run (P := P) (w := w) (b := true) (c := 0) hlo hhi h1 h2 (Nat.le_refl _) (Nat.le_refl _)
              rename_i a' L
              exact ⟨.slice (some a') 0 0, by simp [Instr.sliceAt, Instr.slice, run_underlying hu, hr, run_tsize hz], .sliceEmpty hL⟩
            | slice hL hn hc =>
              rename_i c L
              have hr := bounds_run (P := P) (w := w) (b := true) (c := c) hlo hhi h1 h2 hb.1 (Nat.le_trans hb.2 hn)
              by_cases hcl : c = l
              · subst hcl
                obtain rfl : h = c := by omega
                refine ⟨.slice (some ⟨L.g, off + L.sh, none⟩) 0 0, by simp [Instr.sliceAt, Instr.slice, run_underlying hu, hr, run_tsize hz], ?_⟩
                rw [Nat.sub_self]
                exact .sliceEmpty hL
              · refine ⟨.slice (some ⟨L.g, off + l * L.sz + L.sh, none⟩) (h - l) (c - l), ?_, .slice hL (by omega) ?_⟩
                · simp [Instr.sliceAt, Instr.slice, run_underlying hu, hr, run_tsize hz, hcl, addr_add, Nat.add_right_comm]
                · have : (c - l) * L.sz + l * L.sz = c * L.sz := by rw [← Nat.add_mul]; congr 1; omega
                  omega
          · cases e
        · cases e
      · cases e
    · cases e
  · cases e

theorem bytes_rel : ∀ {cs : List Value} {l : List UInt8} {vs : List Value}, LRel β cs vs → bytesOfCells cs = some l → ∃ ns : List Int, vs = ns.map (Value.int .u8) ∧ l = ns.map fun n => UInt8.ofNat n.toNat
  | [], l, [], _, e => by obtain rfl := Option.some.inj e; exact ⟨[], rfl, rfl⟩
  | x :: r, l, v :: s, h, e => by
    unfold bytesOfCells at e
    split at e
    · rename_i heq; cases heq
    · rename_i n r' heq
      obtain ⟨rfl, rfl⟩ := List.cons.inj heq
      split at e
      · cases e
      · rename_i l' hl'
        obtain rfl := Option.some.inj e
        have hx := h.1
        cases hx
        obtain ⟨ns, rfl, rfl⟩ := bytes_rel h.2 hl'
        exact ⟨n :: ns, rfl, rfl⟩
    · cases e
  | [], _, _ :: _, h, _ => h.elim
  | _ :: _, _, [], h, _ => h.elim
end Go.AM

set_option linter.unusedSimpArgs false
set_option linter.unusedVariables false
namespace Go.AM
open Go
variable {P : Program} {β : Ren} {m : Mem} {w : World}

def Ren.add (β : Ren) (i : Nat) (L : Loc) : Ren := fun j => if j = i then some L else β j

theorem Ren.add_self (β : Ren) (i : Nat) (L : Loc) : β.add i L i = some L := by simp [Ren.add]
theorem Ren.add_ne (β : Ren) {i j : Nat} (L : Loc) (h : j ≠ i) : β.add i L j = β j := by simp [Ren.add, h]
theorem Ren.add_le {β : Ren} {i : Nat} (L : Loc) (h : β i = none) : Le β (β.add i L) := by
  intro j M hj
  by_cases e : j = i
  · subst e; rw [h] at hj; cases hj
  · rw [Ren.add_ne β L e]; exact hj

/-- A memory with less in it. -/
def Sub (m1 m : Mem) : Prop := m1.next = m.next ∧ ∀ i b, m1.get i = some b → m.get i = some b

theorem Sub.refl (m : Mem) : Sub m m := ⟨rfl, fun _ _ h => h⟩
theorem Sub.kill (m : Mem) (i : Nat) : Sub (m.kill i) m := ⟨rfl, fun j b h => by
  simp only [Mem.kill] at h
  split at h
  · cases h
  · exact h⟩

/-- A new block of the machine's, and a new name for it. -/
theorem post_new {m1 : Mem} (W : WRel P β m w) (hs : Sub m1 m) (hlow : ∀ i, i < m.next → β i = none → m1.get i = m.get i) (hF : β m.next = none) {b : Blk} {o : Obj} {L : Loc} {w' : World}
    (hg : L.g = w.heap.size) (hh : w'.heap = w.heap.push o) (h1 : w'.os = w.os) (h2 : w'.tape = w.tape) (h3 : w'.output = w.output)
    (hb : BRel P β L b (some o)) : Post P β m w (m1.new b) (β.add m.next L) w' := by
  have hle : Le β (β.add m.next L) := Ren.add_le L hF
  have hnext : (m1.new b).next = m.next + 1 := by simp [Mem.new, hs.1]
  have hget : ∀ i, (m1.new b).get i = if i = m.next then some b else m1.get i := fun i => by simp [Mem.new, hs.1]
  have hold : ∀ g, g < w.heap.size → w'.heap[g]? = w.heap[g]? := fun g hgl => by rw [hh, Array.getElem?_push]; simp [Nat.ne_of_lt hgl]
  refine ⟨⟨?_, ?_, ?_, ?_⟩, ⟨h1, h2, h3, by rw [hh]; simp, fun g hgl _ => hold g hgl⟩, by omega, ?_, ?_, ?_, ?_⟩
  · intro i b' L' hi hL'
    rw [hget] at hi
    by_cases e : i = m.next
    · subst e
      rw [if_pos rfl] at hi
      obtain rfl := Option.some.inj hi
      rw [Ren.add_self] at hL'
      obtain rfl := Option.some.inj hL'
      rw [hg, hh, Array.getElem?_push]
      simp only [if_true]
      exact hb.mono hle
    · rw [if_neg e] at hi
      rw [Ren.add_ne _ _ e] at hL'
      have := W.blk i b' L' (hs.2 i b' hi) hL'
      rw [hold _ (W.dom i b' L' (hs.2 i b' hi) hL')]
      exact this.mono hle
  · intro i j bi bj Li Lj hi hj hLi hLj e ho
    rw [hget] at hi hj
    by_cases ei : i = m.next
    · by_cases ej : j = m.next
      · rw [ei, ej]
      · subst ei
        rw [Ren.add_self] at hLi
        obtain rfl := Option.some.inj hLi
        rw [Ren.add_ne _ _ ej] at hLj
        rw [if_neg ej] at hj
        have := W.dom j bj Lj (hs.2 j bj hj) hLj
        omega
    · by_cases ej : j = m.next
      · subst ej
        rw [Ren.add_self] at hLj
        obtain rfl := Option.some.inj hLj
        rw [Ren.add_ne _ _ ei] at hLi
        rw [if_neg ei] at hi
        have := W.dom i bi Li (hs.2 i bi hi) hLi
        omega
      · rw [if_neg ei] at hi
        rw [if_neg ej] at hj
        rw [Ren.add_ne _ _ ei] at hLi
        rw [Ren.add_ne _ _ ej] at hLj
        exact W.inj i j bi bj Li Lj (hs.2 i bi hi) (hs.2 j bj hj) hLi hLj e ho
  · intro i b' L' hi hL'
    rw [hget] at hi
    by_cases e : i = m.next
    · subst e
      rw [Ren.add_self] at hL'
      obtain rfl := Option.some.inj hL'
      rw [hg, hh]; simp
    · rw [Ren.add_ne _ _ e] at hL'
      rw [if_neg e] at hi
      have := W.dom i b' L' (hs.2 i b' hi) hL'
      rw [hh]; simp; omega
  · intro i hi
    rw [hnext] at hi
    rw [hget, if_neg (by omega)]
    cases hm : m1.get i with
    | none => rfl
    | some b' =>
      have := hs.2 i b' hm
      rw [W.fresh i (by omega)] at this
      cases this
  · intro i hi
    rw [hnext] at hi
    exact Ren.add_ne _ _ (by omega)
  · intro i hi hn
    rw [hget, if_neg (by omega)]
    exact hlow i hi hn
  · intro i b' hi hb' ho
    rw [hget, if_neg (by omega)] at hb'
    exact ⟨b', hs.2 i b' hb', ho⟩
  · intro i L' h4 h5 hL'
    rw [hnext] at h5
    obtain rfl : i = m.next := by omega
    rw [Ren.add_self] at hL'
    obtain rfl := Option.some.inj hL'
    exact .inl (by omega)

/-- A block of the call's own, written; or grown in place, under a new name. -/
theorem WRel.only {m1 : Mem} (W : WRel P β m w) (hs : Sub m1 m) : WRel P β m1 w :=
  ⟨fun i b L h => W.blk i b L (hs.2 i b h), fun i j bi bj L L' h h' => W.inj i j bi bj L L' (hs.2 i bi h) (hs.2 j bj h'), fun i b L h => W.dom i b L (hs.2 i b h), fun i hi => by
    cases hm : m1.get i with
    | none => rfl
    | some b =>
      have := hs.2 i b hm
      rw [W.fresh i (by rw [← hs.1]; exact hi)] at this
      cases this⟩

theorem setRow_get (g : Nat) {old cs : Array Value} {t : TypeId} {fr : Nat × Nat} (hg : w.heap[g]? = some (.cells old t fr)) (k : Nat) :
    (w.setRow g cs).heap[k]? = if k = g then some (.cells cs t fr) else w.heap[k]? := by
  by_cases h : k = g
  · subst h; rw [if_pos rfl]; exact setRow_heap w k old cs t fr hg
  · rw [if_neg h]; exact setRow_other w g k cs h

theorem post_set {i : Nat} {cs cs1 : List Value} {e : TypeId} {L : Loc} {c c1 : Array Value} {fr : Nat × Nat} (W : WRel P β m w) (hm : m.get i = some (.cells cs e true)) (hL : β i = some L)
    (hc : w.heap[L.g]? = some (.cells c e fr)) (hs : c1.size = c.size) (hl : cs1.length + L.sh ≤ c1.size) (hr : CRel β cs1 c1 L.sh) :
    Post P β m w (m.set i (.cells cs1 e true)) β (w.setRow L.g c1) := by
  obtain ⟨c0, fr0, h1, h2, h3, h4, h5, h6⟩ := W.cells hm hL
  rw [hc] at h1
  obtain ⟨rfl, -, rfl⟩ : c = c0 ∧ e = e ∧ fr = fr0 := by injection h1 with h1; injection h1 with a b d; exact ⟨a, rfl, d⟩
  refine ⟨⟨?_, ?_, ?_, ?_⟩, ⟨by simp, by simp, by simp, by simp, fun g hg hn => ?_⟩, Nat.le_refl _, fun _ _ => rfl, ?_, ?_, ?_⟩
  · intro j b L' hj hL'
    rw [setRow_get _ hc]
    simp only [Mem.set] at hj
    by_cases ej : j = i
    · subst ej
      rw [if_pos rfl] at hj
      obtain rfl := Option.some.inj hj
      rw [hL] at hL'
      obtain rfl := Option.some.inj hL'
      rw [if_pos rfl]
      exact ⟨c1, e, fr, rfl, fun _ => rfl, hs.trans h2, h3, hl, hr, fun ho => (h6 rfl).imp id (fun h => by omega)⟩
    · rw [if_neg ej] at hj
      have hne : L'.g ≠ L.g := fun e' => ej (W.inj j i b _ L' L hj hm hL' hL e' (.inr rfl))
      rw [if_neg hne]
      exact W.blk j b L' hj hL'
  · intro a b ba bb La Lb ha hb hLa hLb eg ho
    simp only [Mem.set] at ha hb
    have ha' : ∃ x, m.get a = some x ∧ (ba.own = true → x.own = true) := by
      by_cases h : a = i
      · exact ⟨_, h ▸ hm, fun _ => rfl⟩
      · rw [if_neg h] at ha; exact ⟨_, ha, id⟩
    have hb' : ∃ x, m.get b = some x ∧ (bb.own = true → x.own = true) := by
      by_cases h : b = i
      · exact ⟨_, h ▸ hm, fun _ => rfl⟩
      · rw [if_neg h] at hb; exact ⟨_, hb, id⟩
    obtain ⟨xa, ha', oa⟩ := ha'
    obtain ⟨xb, hb', ob⟩ := hb'
    exact W.inj a b xa xb La Lb ha' hb' hLa hLb eg (ho.imp oa ob)
  · intro j b L' hj hL'
    simp only [setRow_size]
    simp only [Mem.set] at hj
    by_cases h : j = i
    · subst h
      exact W.dom j _ L' hm hL'
    · rw [if_neg h] at hj
      exact W.dom j b L' hj hL'
  · intro j hj
    simp only [Mem.set] at hj ⊢
    by_cases h : j = i
    · subst h
      have := W.fresh j hj
      rw [hm] at this
      cases this
    · rw [if_neg h]; exact W.fresh j hj
  · rw [setRow_get _ hc, if_neg]
    intro e'
    exact hn i _ L hm rfl hL e'.symm
  · intro j hj hn
    simp only [Mem.set]
    rw [if_neg]
    rintro rfl
    rw [hL] at hn
    cases hn
  · intro j b hj hb ho
    simp only [Mem.set] at hb
    by_cases h : j = i
    · subst h; exact ⟨_, hm, rfl⟩
    · rw [if_neg h] at hb; exact ⟨b, hb, ho⟩
  · intro j L' h7 h8
    exact absurd h8 (by simp only [Mem.set]; omega)

theorem post_move {i : Nat} {cs cs1 : List Value} {e : TypeId} {L : Loc} {sh : Nat} {c c1 : Array Value} {fr : Nat × Nat} (W : WRel P β m w) (hm : m.get i = some (.cells cs e true)) (hL : β i = some L)
    (hF : β m.next = none) (hc : w.heap[L.g]? = some (.cells c e fr)) (hs : c1.size = c.size) (hl : cs1.length + sh ≤ c1.size) (hr : CRel β cs1 c1 sh) :
    Post P β m w ((m.kill i).new (.cells cs1 e true)) (β.add m.next ⟨L.g, sh, L.size, L.sz⟩) (w.setRow L.g c1) := by
  obtain ⟨c0, fr0, h1, h2, h3, h4, h5, h6⟩ := W.cells hm hL
  rw [hc] at h1
  obtain ⟨rfl, -, rfl⟩ : c = c0 ∧ e = e ∧ fr = fr0 := by injection h1 with h1; injection h1 with a b d; exact ⟨a, rfl, d⟩
  have hle : Le β (β.add m.next ⟨L.g, sh, L.size, L.sz⟩) := Ren.add_le _ hF
  have hi : i < m.next := by
    rcases Nat.lt_or_ge i m.next with h | h
    · exact h
    · rw [W.fresh i h] at hm; cases hm
  have hget : ∀ j, ((m.kill i).new (.cells cs1 e true)).get j = if j = m.next then some (.cells cs1 e true) else if j = i then none else m.get j := fun j => rfl
  refine ⟨⟨?_, ?_, ?_, ?_⟩, ⟨by simp, by simp, by simp, by simp, fun g hg hn => ?_⟩, by simp [Mem.new, Mem.kill], ?_, ?_, ?_, ?_⟩
  · intro j b L' hj hL'
    rw [setRow_get _ hc]
    rw [hget] at hj
    by_cases e1 : j = m.next
    · subst e1
      rw [if_pos rfl] at hj
      obtain rfl := Option.some.inj hj
      rw [Ren.add_self] at hL'
      obtain rfl := Option.some.inj hL'
      rw [if_pos rfl]
      exact ⟨c1, e, fr, rfl, fun _ => rfl, hs.trans h2, h3, hl, hr.mono hle, fun ho => (h6 rfl).imp id (fun h => by omega)⟩
    · rw [if_neg e1] at hj
      split at hj
      · cases hj
      · rename_i e2
        rw [Ren.add_ne _ _ e1] at hL'
        have hne : L'.g ≠ L.g := fun e' => e2 (W.inj j i b _ L' L hj hm hL' hL e' (.inr rfl))
        rw [if_neg hne]
        exact (W.blk j b L' hj hL').mono hle
  · intro a b ba bb La Lb ha hb hLa hLb eg ho
    rw [hget] at ha hb
    by_cases ea : a = m.next
    · by_cases eb : b = m.next
      · rw [ea, eb]
      · subst ea
        rw [Ren.add_self] at hLa
        obtain rfl := Option.some.inj hLa
        rw [Ren.add_ne _ _ eb] at hLb
        rw [if_neg eb] at hb
        split at hb
        · cases hb
        · rename_i e2
          exact (e2 (W.inj i b _ bb L Lb hm hb hL hLb eg (.inl rfl)).symm).elim
    · by_cases eb : b = m.next
      · subst eb
        rw [Ren.add_self] at hLb
        obtain rfl := Option.some.inj hLb
        rw [Ren.add_ne _ _ ea] at hLa
        rw [if_neg ea] at ha
        split at ha
        · cases ha
        · rename_i e2
          exact (e2 (W.inj a i ba _ La L ha hm hLa hL eg (.inr rfl))).elim
      · rw [Ren.add_ne _ _ ea] at hLa
        rw [Ren.add_ne _ _ eb] at hLb
        rw [if_neg ea] at ha
        rw [if_neg eb] at hb
        split at ha
        · cases ha
        · split at hb
          · cases hb
          · exact W.inj a b ba bb La Lb ha hb hLa hLb eg ho
  · intro j b L' hj hL'
    simp only [setRow_size]
    rw [hget] at hj
    by_cases e1 : j = m.next
    · subst e1
      rw [Ren.add_self] at hL'
      obtain rfl := Option.some.inj hL'
      exact W.dom i _ L hm hL
    · rw [Ren.add_ne _ _ e1] at hL'
      rw [if_neg e1] at hj
      split at hj
      · cases hj
      · exact W.dom j b L' hj hL'
  · intro j hj
    rw [hget]
    have hj' : m.next + 1 ≤ j := hj
    rw [if_neg (by omega), if_neg (by omega)]
    exact W.fresh j (by omega)
  · rw [setRow_get _ hc, if_neg]
    intro e'
    exact hn i _ L hm rfl hL e'.symm
  · intro j hj
    refine Ren.add_ne _ _ ?_
    rintro rfl
    rcases hj with h | h
    · omega
    · have : m.next + 1 ≤ m.next := h
      omega
  · intro j hj hn
    rw [hget, if_neg (by omega), if_neg]
    rintro rfl
    rw [hL] at hn
    cases hn
  · intro j b hj hb ho
    rw [hget, if_neg (by omega)] at hb
    split at hb
    · cases hb
    · exact ⟨b, hb, ho⟩
  · intro j L' h7 h8 hL'
    have h8' : j < m.next + 1 := h8
    obtain rfl : j = m.next := by omega
    rw [Ren.add_self] at hL'
    obtain rfl := Option.some.inj hL'
    exact .inr ⟨i, _, L, hm, rfl, hL, rfl⟩

theorem unfrozen {c : Array Value} {fr : Nat × Nat} (h : fr.1 = fr.2 ∨ c.size ≤ fr.1) : ∀ k, k < c.size → ¬ (fr.1 ≤ k ∧ k < fr.2) := by
  intro k hk ⟨h1, h2⟩
  rcases h with h | h <;> omega

/-- 'store' of cells, one behind the other, in a block of the call's own. -/
theorem run_store_row {g : Nat} {t : TypeId} {fr : Nat × Nat} : ∀ (vs : List Value) (o i : Nat) (cur : Array Value) (w : World), w.heap[g]? = some (.cells cur t fr) → o + i + vs.length ≤ cur.size →
    (∀ k, k < cur.size → ¬ (fr.1 ≤ k ∧ k < fr.2)) → (∀ v ∈ vs, okCell v = true) →
    (storeCells ⟨g, o, none⟩ vs i).run P w = .ok () (w.setRow g (cur.toList.take (o + i) ++ vs ++ cur.toList.drop (o + i + vs.length)).toArray)
  | [], o, i, cur, w, hg, _, _, _ => by
    simp only [storeCells, List.append_nil, List.length_nil, Nat.add_zero, List.take_append_drop, Array.toArray_toList]
    rw [setRow_self w g cur t fr hg]
    rfl
  | v :: rest, o, i, cur, w, hg, hl, hf, h1 => by
    have hi : o + i < cur.size := by simp at hl; omega
    have hcell : w.cell? ⟨g, o + i, none⟩ = some cur[o + i] := by simp [World.cell?, hg, hi]
    have hfro : w.frozen? ⟨g, o + i, none⟩ = false := by
      have := hf (o + i) hi
      simp only [World.frozen?, hg]
      rw [Bool.eq_false_iff]
      intro hc
      simp at hc
      exact this hc
    have hv := h1 v (by simp)
    have hst : (store ((⟨g, o, none⟩ : Addr).add i) v).run P w = .ok () (w.setRow g (cur.setIfInBounds (o + i) v)) := by
      rw [addr_add]
      have h9 : (store ⟨g, o + i, none⟩ v).run P w = .ok () (w.setCell ⟨g, o + i, none⟩ v) := by
        cases v <;> first | (simp [okCell] at hv; done) | simp [store, Sem.run, hcell, hfro]
      rw [h9, setCell_eq_setRow w g (o + i) cur t fr v hg]
    have ih := run_store_row rest o (i + 1) (cur.setIfInBounds (o + i) v) (w.setRow g (cur.setIfInBounds (o + i) v)) (setRow_heap w g cur _ t _ hg) (by simp at hl ⊢; omega) (by simpa using hf) (fun x hx => h1 x (by simp [hx]))
    simp only [storeCells, Sem.run_bind, hst, Result.andThen_ok, ih, setRow_setRow]
    congr 3
    have e := list_seg_step cur.toList (o + i) v rest (by simp at hl ⊢; omega)
    simpa [Array.toList_setIfInBounds, Nat.add_assoc] using e

theorem CRel.of_arel {cs c : Array Value} (h : ARel β cs c) : CRel β cs.toList c 0 := fun i x hx => by
  have hx' : cs[i]? = some x := by simpa using hx
  obtain ⟨v, hv, r⟩ := h.get hx'
  exact ⟨h.ok i x hx', v, by simpa using hv, r⟩

/-- Cells that are written into a block, as the abstract memory has it and as the machine has it. -/
theorem CRel.set {cs : List Value} {c : Array Value} {sh off : Nat} {xs : List Value} {vs : List Value} (h : CRel β cs c sh) (hc : cs.length + sh ≤ c.size) (hx : ARel β xs.toArray vs.toArray) (ho : off + xs.length ≤ cs.length) :
    CRel β (setCells cs off xs) (c.toList.take (off + sh) ++ vs ++ c.toList.drop (off + sh + vs.length)).toArray sh ∧ (setCells cs off xs).length = cs.length ∧
      (c.toList.take (off + sh) ++ vs ++ c.toList.drop (off + sh + vs.length)).toArray.size = c.size := by
  have hl : xs.length = vs.length := by simpa using hx.size
  refine ⟨fun i x hi => ?_, by simp [setCells]; omega, by simp; omega⟩
  simp only [List.getElem?_toArray]
  unfold setCells at hi
  by_cases h1 : i < off
  · rw [List.append_assoc, List.getElem?_append_left (by simp; omega), List.getElem?_take, if_pos h1] at hi
    obtain ⟨a, v, hv, r⟩ := h i x hi
    refine ⟨a, v, ?_, r⟩
    rw [List.append_assoc, List.getElem?_append_left (by simp; omega), List.getElem?_take, if_pos (by omega)]
    simpa using hv
  · by_cases h2 : i < off + xs.length
    · rw [List.append_assoc, List.getElem?_append_right (by simp; omega), List.getElem?_append_left (by simp; omega)] at hi
      have e1 : i - (cs.take off).length = i - off := by simp; omega
      rw [e1] at hi
      obtain ⟨v, hv, r⟩ := hx.get (i := i - off) (x := x) (by simpa using hi)
      refine ⟨hx.ok (i - off) x (by simpa using hi), v, ?_, r⟩
      rw [List.append_assoc, List.getElem?_append_right (by simp; omega), List.getElem?_append_left (by simp; omega)]
      have e2 : i + sh - (c.toList.take (off + sh)).length = i - off := by simp; omega
      rw [e2]
      simpa using hv
    · rw [List.append_assoc, List.getElem?_append_right (by simp; omega), List.getElem?_append_right (by simp; omega), List.getElem?_drop] at hi
      have e1 : off + xs.length + (i - (cs.take off).length - xs.length) = i := by simp; omega
      rw [e1] at hi
      obtain ⟨a, v, hv, r⟩ := h i x hi
      refine ⟨a, v, ?_, r⟩
      rw [List.append_assoc, List.getElem?_append_right (by simp; omega), List.getElem?_append_right (by simp; omega), List.getElem?_drop]
      have e2 : off + sh + vs.length + (i + sh - (c.toList.take (off + sh)).length - vs.length) = i + sh := by simp; omega
      rw [e2]
      simpa using hv

theorem opStore_rel {t : TypeId} {a x u v : Value} {m' : Mem} (W : WRel P β m w) (ha : VRel β a u) (hx : VRel β x v) (e : opStore P t a x m = some m') :
    ∃ w', (Instr.storeAt t u v).run P w = .ok () w' ∧ Post P β m w m' β w' := by
  unfold opStore at e
  split at e
  · rename_i i off
    split at e
    · rename_i cs el hm
      split at e
      · rename_i hh
        obtain ⟨h1, h2, h3⟩ := hh
        obtain rfl := Option.some.inj e
        cases ha with
        | ptr hL =>
          rename_i L
          obtain ⟨c, fr, h4, h5, h6, h7, h8, h9⟩ := W.cells hm hL
          have hr := hx.cells h2
          have hl : x.cells.toList.length = v.cells.toList.length := by simpa using hr.size
          have hset := CRel.set (vs := v.cells.toList) h8 h7 (xs := x.cells.toList) (by simpa using hr) (by simpa using h3)
          have hrun := run_store_row (P := P) v.cells.toList (off + L.sh) 0 c w h4 (by simp at hl ⊢; omega) (unfrozen (h9 rfl)) (fun y hy => by
            obtain ⟨k, hk⟩ := List.mem_iff_getElem?.1 hy
            have hk' : v.cells[k]? = some y := by simpa using hk
            have hlt : k < x.cells.size := by
              rw [hr.size]
              rcases Nat.lt_or_ge k v.cells.size with h' | h'
              · exact h'
              · rw [Array.getElem?_eq_none h'] at hk'; cases hk'
            have r := hr.has k x.cells[k] y (Array.getElem?_eq_getElem hlt) hk'
            rw [r.okCell]
            exact hr.ok k _ (Array.getElem?_eq_getElem hlt))
          refine ⟨_, ?_, post_set W hm hL h4 (c1 := (c.toList.take (off + L.sh) ++ v.cells.toList ++ c.toList.drop (off + L.sh + v.cells.toList.length)).toArray) hset.2.2 (by rw [hset.2.1, hset.2.2]; exact h7) hset.1⟩
          have hsz : v.cells.size = x.cells.size := hr.size.symm
          simp only [Instr.storeAt, Instr.sureAddr, storeVar, Sem.run_bind, Sem.run_pure, Result.andThen_ok, run_tsize h1]
          rw [if_neg (by rw [hsz]; simp)]
          rw [hrun]
          simp
      · cases e
    · cases e
  · cases e
end Go.AM

set_option linter.unusedSimpArgs false
set_option linter.unusedVariables false
namespace Go.AM
open Go
variable {P : Program} {β : Ren} {m : Mem} {w : World}

/-- A value that points to a new block. -/
theorem new_block (W : WRel P β m w) (hF : β m.next = none) {cs : List Value} {c : Array Value} (e : TypeId) {w' : World} (hh : w'.heap = w.heap.push (.cells c e)) (h1 : w'.os = w.os) (h2 : w'.tape = w.tape) (h3 : w'.output = w.output)
    (hl : cs.length ≤ c.size) (hr : CRel β cs c 0) : Post P β m w (m.new (.cells cs e true)) (β.add m.next ⟨w.heap.size, 0, c.size, esz P e⟩) w' :=
  post_new W (Sub.refl m) (fun _ _ _ => rfl) hF rfl hh h1 h2 h3 ⟨c, e, (0, 0), rfl, fun _ => rfl, rfl, rfl, by simpa using hl, hr, fun _ => .inl rfl⟩

theorem opAlloc_rel {t : TypeId} {x : Value} {m' : Mem} (W : WRel P β m w) (hF : Free β m m') (e : opAlloc P t m = some (x, m')) :
    ∃ v w' β', (Instr.alloc t true (.tuple #[])).run P w = .ok v w' ∧ VRel β' x v ∧ Post P β m w m' β' w' := by
  unfold opAlloc at e
  split at e
  · cases e
  · rename_i z hz
    split at e
    · rename_i hc
      obtain ⟨rfl, rfl⟩ := Prod.mk.inj (Option.some.inj e)
      obtain ⟨hr, hk⟩ := zero_rel (β := β) hc
      have hA := hr.cells hk
      refine ⟨.pointer (some ⟨w.heap.size, 0, none⟩), { w with heap := w.heap.push (.cells z.cells t) }, _, ?_, ?_, new_block W (hF _ (Nat.le_refl _) (by simp [Mem.new])) t rfl rfl rfl rfl (by simp) (CRel.of_arel hA)⟩
      · simp [Instr.alloc, run_tzero hz, newVar, newRow, newObj, Sem.run]
      · exact VRel.ptr (off := 0) (Ren.add_self β m.next _)
    · cases e

theorem opBox_rel {t : TypeId} {a u x : Value} {m' : Mem} (W : WRel P β m w) (hF : Free β m m') (ha : VRel β a u) (e : opBox t a m = some (x, m')) :
    ∃ v w' β', (Instr.box t u).run P w = .ok v w' ∧ VRel β' x v ∧ Post P β m w m' β' w' := by
  unfold opBox at e
  split at e
  · rename_i hk
    obtain ⟨rfl, rfl⟩ := Prod.mk.inj (Option.some.inj e)
    have hA := ha.cells hk
    refine ⟨.pointer (some ⟨w.heap.size, 0, none⟩), { w with heap := w.heap.push (.cells u.cells t) }, _, ?_, ?_, new_block W (hF _ (Nat.le_refl _) (by simp [Mem.new])) t rfl rfl rfl rfl (by have := hA.size; simp; omega) (CRel.of_arel hA)⟩
    · simp [Instr.box, newVar, newRow, newObj, Sem.run]
    · exact VRel.ptr (off := 0) (Ren.add_self β m.next _)
  · cases e

theorem zeroRow_size (z : Array Value) (n : Nat) : (zeroRow z n).size = n := by simp [zeroRow]

theorem zeroRow_rel {z : Array Value} {n : Nat} (h : ARel β z z) (hz : 0 < z.size) : ARel β (zeroRow z n) (zeroRow z n) := by
  have hg : ∀ (i : Nat) (x : Value), (zeroRow z n)[i]? = some x → ∃ j : Nat, z[j]? = some x := by
    intro i x hx
    unfold zeroRow at hx
    rw [Array.getElem?_map] at hx
    cases hi : (Array.range n)[i]? with
    | none => rw [hi] at hx; cases hx
    | some k =>
      rw [hi] at hx
      simp only [Option.map_some, Option.some.injEq] at hx
      have hlt : k % z.size < z.size := Nat.mod_lt _ hz
      refine ⟨k % z.size, ?_⟩
      rw [← hx, getElem!_pos z (k % z.size) hlt]
      exact Array.getElem?_eq_getElem hlt
  refine ⟨rfl, fun i x x' h1 h2 => ?_, fun i x h1 => ?_⟩
  · rw [h1] at h2
    obtain rfl := Option.some.inj h2
    obtain ⟨j, hj⟩ := hg i x h1
    exact h.has j x x hj hj
  · obtain ⟨j, hj⟩ := hg i x h1
    exact h.ok j x hj

theorem foldl_size (off : Nat) : ∀ (xs : List Value) (k : Nat) (cs : Array Value), ((xs.zipIdx k).foldl (fun cs (c : Value × Nat) => cs.setIfInBounds (off + c.2) c.1) cs).size = cs.size
  | [], _, _ => rfl
  | x :: r, k, cs => by
    simp only [List.zipIdx_cons, List.foldl_cons]
    rw [foldl_size off r (k + 1)]
    simp

theorem fill_size (place : Nat → Option (Nat × Nat)) : ∀ {parts : List (Nat × Value)} {cs r : Array Value}, Instr.fill place cs parts = some r → r.size = cs.size
  | [], cs, r, e => by obtain rfl := Option.some.inj e; rfl
  | (i, x) :: ps, cs, r, e => by
    simp only [Instr.fill] at e
    split at e
    · cases e
    · split at e
      · cases e
      · rw [fill_size place e, ← Array.foldl_toList, Array.toList_zipIdx]
        exact foldl_size _ _ _ _

theorem opBuildSlice_rel {t : TypeId} {len : Nat} {parts parts' : List (Nat × Value)} {x : Value} {m' : Mem} (W : WRel P β m w) (hF : Free β m m') (hp : PRel β parts parts') (e : opBuildSlice P t len parts m = some (x, m')) :
    ∃ v w' β', (Instr.buildSlice t len parts'.toArray).run P w = .ok v w' ∧ VRel β' x v ∧ Post P β m w m' β' w' := by
  unfold opBuildSlice at e
  split at e
  · rename_i el hu
    split at e
    · rename_i s z hs hz
      split at e
      · rename_i hh
        obtain ⟨h1, h2, h3, h4⟩ := hh
        split at e
        · cases e
        · rename_i cells hf
          obtain ⟨rfl, rfl⟩ := Prod.mk.inj (Option.some.inj e)
          obtain ⟨hr, hk⟩ := zero_rel (β := β) h1
          have hA := hr.cells hk
          obtain ⟨r', hr', ha⟩ := fill_rel _ hp (zeroRow_rel (n := len * s) hA h3) hf
          have hsz : r'.size = len * s := by rw [fill_size _ hr', zeroRow_size]
          refine ⟨.slice (some ⟨w.heap.size, 0, none⟩) len len, { w with heap := w.heap.push (.cells r' el) }, _, ?_, ?_, new_block W (hF _ (Nat.le_refl _) (by simp [Mem.new])) el rfl rfl rfl rfl (by have := ha.size; simp; omega) (CRel.of_arel ha)⟩
          · have hn : ¬ len * s > 2 ^ 24 := by omega
            by_cases h0 : len * s = 0
            · have hr0 : Instr.fill (fun i => some (i * s, s)) ((Array.range (len * s)).map (fun x => (#[] : Array Value)[x % (#[] : Array Value).size]!)) parts' = some r' := by
                rw [← hr']
                congr 1
                unfold zeroRow
                rw [h0]
                simp
              simp only [Instr.buildSlice, Sem.run_bind, run_underlying hu, Result.andThen_ok, run_tsize hs]
              rw [if_neg hn, if_pos h0]
              simp only [Sem.run_bind, Sem.run_pure, Result.andThen_ok]
              rw [hr0]
              simp [newRow, newObj, Sem.run]
            · simp only [Instr.buildSlice, Sem.run_bind, run_underlying hu, Result.andThen_ok, run_tsize hs]
              rw [if_neg hn, if_neg h0]
              simp only [Sem.run_bind, Sem.run_pure, Result.andThen_ok, run_tzero hz]
              have hr1 : Instr.fill (fun i => some (i * s, s)) ((Array.range (len * s)).map (fun x => z.cells[x % z.cells.size]!)) parts' = some r' := hr'
              rw [hr1]
              simp [newRow, newObj, Sem.run]
          · have := VRel.slice (β := β.add m.next ⟨w.heap.size, 0, r'.size, esz P el⟩) (off := 0) (n := len) (c := len) (Ren.add_self β m.next _) (Nat.le_refl _) (by simp [tsize_esz hs]; omega)
            simpa [tsize_esz hs] using this
      · cases e
    · cases e
  · cases e

theorem run_askRoom (n : Nat) : (askRoom n).run P w = .ok () w := by
  unfold askRoom
  split <;> rfl

theorem opMakeSlice_rel {t : TypeId} {a b u v x : Value} {m' : Mem} (W : WRel P β m w) (hF : Free β m m') (ha : VRel β a u) (hb : VRel β b v) (e : opMakeSlice P t a b m = some (x, m')) :
    ∃ z w' β', (Instr.makeSlice t u v).run P w = .ok z w' ∧ VRel β' x z ∧ Post P β m w m' β' w' := by
  unfold opMakeSlice at e
  split at e
  · rename_i el k n k' n' hu
    split at e
    · rename_i s z b hs hz hbt
      split at e
      · rename_i hh
        obtain ⟨rfl, h1, h2, h3, h4, h5, h6⟩ := hh
        obtain ⟨rfl, rfl⟩ := Prod.mk.inj (Option.some.inj e)
        cases ha; cases hb
        obtain ⟨hr, hk⟩ := zero_rel (β := β) h4
        have hA := hr.cells hk
        obtain ⟨i, hi, hib⟩ := run_tinfo (w := w) hbt
        have hw : IntKind.i64.wrap n = n := by
          rw [IntKind.wrap_i64]
          omega
        have hzr := zeroRow_rel (n := n.toNat * s) hA (by omega)
        refine ⟨.slice (some ⟨w.heap.size, 0, none⟩) n.toNat n.toNat, { w with heap := w.heap.push (.cells (zeroRow z.cells (n.toNat * s)) el) }, _, ?_, ?_, new_block W (hF _ (Nat.le_refl _) (by simp [Mem.new])) el rfl rfl rfl rfl (by simp) (CRel.of_arel hzr)⟩
        · have hb1 : (i.bytes : Int) * n ≤ 140737488355328 := by
            rw [hib]
            have h7 := Int.ofNat_le.2 h2
            rw [Int.natCast_mul, Int.toNat_of_nonneg h1, Int.mul_comm] at h7
            exact h7
          simp only [Instr.makeSlice, Sem.run_bind, run_underlying hu, Result.andThen_ok, asInt, asIntOf, Sem.run_pure, hi, hw]
          rw [if_neg (by
            have h8 : (i.bytes : Int) * n ≤ 281474976710656 := by omega
            have h9 : ¬ n < 0 := by omega
            simp [h8, h9])]
          simp only [Sem.run_bind, Sem.run_pure, Result.andThen_ok]
          rw [run_askRoom]
          simp only [Result.andThen_ok, run_tsize hs]
          by_cases h0 : n.toNat * s = 0
          · rw [if_pos h0]
            have hz0 : zeroRow z.cells (n.toNat * s) = Array.map (fun x => (#[] : Array Value)[x % (#[] : Array Value).size]!) (Array.range (n.toNat * s)) := by
              unfold zeroRow
              rw [h0]
              simp
            rw [hz0]
            simp [newRow, newObj, Sem.run]
          · rw [if_neg h0]
            simp [run_tzero hz, newRow, newObj, Sem.run, zeroRow]
        · have := VRel.slice (β := β.add m.next ⟨w.heap.size, 0, (zeroRow z.cells (n.toNat * s)).size, esz P el⟩) (off := 0) (n := n.toNat) (c := n.toNat) (Ren.add_self β m.next _) (Nat.le_refl _) (by simp [tsize_esz hs, zeroRow_size])
          simpa [tsize_esz hs] using this
      · cases e
    · cases e
  · cases e

/-- What a slice shows, as the machine reads it. -/
theorem shown_rel {s n j : Nat} {a : Option Addr} {q : Nat} {u : Value} {cs : List Value} (W : WRel P β m w) (hj : j ≤ n) (ha : VRel β (.slice a n q) u) (e : shown s j (.slice a n q) m = some cs) :
    ∃ vs : Array Value, (∀ w' : World, w'.heap = w.heap → (Builtin.firstCells s j u).run P w' = .ok vs w') ∧ ARel β cs.toArray vs ∧ vs.size = j * s := by
  unfold shown at e
  split at e
  · rename_i heq
    injection heq with h1 h2 h3
    subst h1
    cases ha
    obtain rfl : j = 0 := by omega
    rw [if_pos rfl] at e
    obtain rfl := Option.some.inj e
    exact ⟨#[], fun w' _ => by simp [Builtin.firstCells], ⟨rfl, fun i x x' h => by simp at h, fun i x h => by simp at h⟩, by simp⟩
  · rename_i i off n1 q1 heq
    injection heq with h1 h2 h3
    subst h1
    split at e
    · rename_i h0
      subst h0
      obtain rfl := Option.some.inj e
      refine ⟨#[], fun w' _ => ?_, ⟨rfl, fun i x x' h => by simp at h, fun i x h => by simp at h⟩, by simp⟩
      cases ha <;> simp [Builtin.firstCells, loadCells, loadCellsFrom]
    · rename_i h0
      split at e
      · rename_i cs0 el own hm
        split at e
        · rename_i hle
          obtain rfl := Option.some.inj e
          cases ha with
          | sliceEmpty => exact absurd (Nat.le_zero.1 hj) h0
          | slice hL hn hc =>
            rename_i c L
            obtain ⟨vs, hvs, r⟩ := loadCells_rel W hm hL hle
            refine ⟨vs, fun w' hw' => by simp [Builtin.firstCells, hvs w' hw'], r, ?_⟩
            have := r.size
            simp at this
            omega
        · cases e
      · cases e
  · cases e

theorem bytesRow_rel (b : ByteArray) : ARel β (cellsOfBytes b).toArray (b.data.map fun c => .int .u8 c.toNat) := by
  refine ⟨by simp [cellsOfBytes], fun i x x' h1 h2 => ?_, fun i x h1 => ?_⟩
  · unfold cellsOfBytes at h1
    simp only [List.getElem?_toArray, List.getElem?_map, Array.getElem?_toList] at h1
    rw [Array.getElem?_map] at h2
    rw [h1] at h2
    obtain rfl := Option.some.inj h2
    cases hb : b.data[i]? with
    | none => rw [hb] at h1; cases h1
    | some c => rw [hb] at h1; obtain rfl := Option.some.inj h1; exact .int _ _
  · unfold cellsOfBytes at h1
    simp only [List.getElem?_toArray, List.getElem?_map, Array.getElem?_toList] at h1
    cases hb : b.data[i]? with
    | none => rw [hb] at h1; cases h1
    | some c => rw [hb] at h1; obtain rfl := Option.some.inj h1; rfl


end Go.AM

set_option linter.unusedSimpArgs false
set_option linter.unusedVariables false
namespace Go.AM
open Go
variable {P : Program} {β : Ren} {m : Mem} {w : World}

section
variable {ts : List TypeId} {st xt el ty : TypeId} {base : Option Addr} {n c k s : Nat} {v : Value} {i : TypeInfo} {z : Value} {new old : Array Value} {dx : TypeDesc}

theorem append_fit (hu : P.underlying st = some (.slice el)) (hs : tsize P el = some s) (hx : P.underlying xt = some dx) (hd : dx = .string ∨ ∃ e, dx = .slice e)
    (hl : (Builtin.lenOf v).run P w = .ok k w) (hf : n + k ≤ c) (hA : (Builtin.firstCells s k v).run P w = .ok new w) :
    (Builtin.append_ (st :: xt :: ts).toArray ty #[.slice base n c, v]).run P w =
      match base with
      | some a => ((storeCells (a.add (n * s)) new.toList).run P w).andThen fun _ w' => .ok (.slice (some a) (n + k) c) w'
      | none => .ok (.slice none (n + k) c) w := by
  rcases hd with rfl | ⟨e, rfl⟩
  · simp only [Builtin.append_, Sem.run_bind]
    simp [run_underlying hu, run_underlying hx, run_tsize hs, hl, hf, hA]
    cases base <;> simp
  · simp only [Builtin.append_, Sem.run_bind]
    simp [run_underlying hu, run_underlying hx, run_tsize hs, hl, hf, hA]
    cases base <;> simp

theorem append_grow (hu : P.underlying st = some (.slice el)) (hs : tsize P el = some s) (hx : P.underlying xt = some dx) (hd : dx = .string ∨ ∃ e, dx = .slice e)
    (hi : P.info? el = some i) (hz : i.zero = some z) (hb0 : 0 < i.bytes)
    (hl : (Builtin.lenOf v).run P w = .ok k w) (hf : ¬ n + k ≤ c) (hb : (n + k) * i.bytes ≤ 140737488355328)
    (hO : (Builtin.firstCells s n (.slice base n c)).run P w.drew = .ok old w.drew) (hA : (Builtin.firstCells s k v).run P w.drew = .ok new w.drew) :
    ∃ cap, n + k ≤ cap ∧ (Builtin.append_ (st :: xt :: ts).toArray ty #[.slice base n c, v]).run P w =
      .ok (.slice (some ⟨w.heap.size, 0, none⟩) (n + k) cap) { w.drew with heap := w.heap.push (.cells (old ++ new ++ Builtin.zeroCells z.cells (cap - (n + k))) el) } := by
  have hi' : ∀ w, (typeInfo el).run P w = .ok i w := fun w => by simp [typeInfo, hi]
  have hz' : ∀ w, (zeroValue el).run P w = .ok z w := fun w => by simp [zeroValue, hi', hz]
  have hfits := growslice_fits (need := n + k) (old := c) (by omega) hb
  have hb1 : ¬ i.bytes = 0 := by omega
  have hr : ∀ (N : Nat) (w : World), (askRoom N).run P w = .ok () w := fun N w => run_askRoom N
  refine ⟨(Question.appendCap (n + k) c el).cut (w.tape w.drawn (Question.appendCap (n + k) c el)), by simp [Question.cut], ?_⟩
  have hno : ¬ 281474976710656 < Builtin.nextslicecap (n + k) c * i.bytes := by omega
  have hff : (Question.appendCap (n + k) c el).forced = false := rfl
  rcases hd with rfl | ⟨e, rfl⟩
  · simp only [Builtin.append_, Sem.run_bind]
    simp [run_underlying hu, run_underlying hx, run_tsize hs, hl, hf, hA, hO, hi', hz', hb1, hno, hff, hr, newRow, newObj, Sem.run, Array.append_assoc]
    rfl
  · simp only [Builtin.append_, Sem.run_bind]
    simp [run_underlying hu, run_underlying hx, run_tsize hs, hl, hf, hA, hO, hi', hz', hb1, hno, hff, hr, newRow, newObj, Sem.run, Array.append_assoc]
    rfl

theorem wrap_small {l : Int} (h0 : 0 ≤ l) (h1 : l ≤ 9223372036854775807) : IntKind.i64.wrap l = l := by
  rw [IntKind.wrap_i64]
  omega

theorem append_fit_zeros {kk : IntKind} {l : Int} (hu : P.underlying st = some (.slice el)) (hs : tsize P el = some s) (hx : P.underlying xt = some (.int kk))
    (hi : P.info? el = some i) (hz : i.zero = some z) (hb0 : 0 < i.bytes) (h0 : 0 ≤ l) (hk : l.toNat * i.bytes ≤ 140737488355328) (hzs : z.cells.size = s) (hs0 : 0 < s) (hf : n + l.toNat ≤ c) :
    (Builtin.append_ (st :: xt :: ts).toArray ty #[.slice base n c, .int .i64 l]).run P w =
      match base with
      | some a => ((storeCells (a.add (n * s)) (zeroRow z.cells (l.toNat * s)).toList).run P w).andThen fun _ w' => .ok (.slice (some a) (n + l.toNat) c) w'
      | none => .ok (.slice none (n + l.toNat) c) w := by
  have hi' : ∀ w, (typeInfo el).run P w = .ok i w := fun w => by simp [typeInfo, hi]
  have hz' : ∀ w, (zeroValue el).run P w = .ok z w := fun w => by simp [zeroValue, hi', hz]
  have hl1 : l.toNat ≤ 140737488355328 := Nat.le_trans (Nat.le_mul_of_pos_right _ hb0) hk
  have hw : IntKind.i64.wrap l = l := wrap_small h0 (by omega)
  have h2 : ¬ l < 0 := by omega
  have h3 : ¬ 281474976710656 < l * i.bytes := by
    have h7 := Int.ofNat_le.2 hk
    rw [Int.natCast_mul, Int.toNat_of_nonneg h0] at h7
    omega
  have hzr : Builtin.zeroCells z.cells l.toNat = zeroRow z.cells (l.toNat * s) := by
    unfold Builtin.zeroCells zeroRow
    rw [hzs]
  by_cases hn : l.toNat * s = 0
  · have hl0 : l.toNat = 0 := by
      rcases Nat.mul_eq_zero.1 hn with h | h
      · exact h
      · omega
    have hl00 : l = 0 := by omega
    subst hl00
    simp only [Builtin.append_, Sem.run_bind]
    simp [run_underlying hu, run_underlying hx, run_tsize hs, hi', asInt, asIntOf, hw] at hf ⊢
    simp [hf]
    cases base <;> simp [zeroRow]
  · simp only [Builtin.append_, Sem.run_bind]
    have hn1 : ¬ l.toNat = 0 := by rintro h; rw [h] at hn; simp at hn
    have hn2 : ¬ s = 0 := by omega
    simp [run_underlying hu, run_underlying hx, run_tsize hs, hi', asInt, asIntOf, hw, h2, h3, hf, hz', hzr, hn]
    cases base <;> simp [hn]

theorem append_grow_zeros {kk : IntKind} {l : Int} (hu : P.underlying st = some (.slice el)) (hs : tsize P el = some s) (hx : P.underlying xt = some (.int kk))
    (hi : P.info? el = some i) (hz : i.zero = some z) (hb0 : 0 < i.bytes) (h0 : 0 ≤ l) (hb : (n + l.toNat) * i.bytes ≤ 140737488355328) (hzs : z.cells.size = s) (hs0 : 0 < s) (hf : ¬ n + l.toNat ≤ c) (hk0 : l.toNat ≠ 0)
    (hO : (Builtin.firstCells s n (.slice base n c)).run P w.drew = .ok old w.drew) :
    ∃ cap, n + l.toNat ≤ cap ∧ (Builtin.append_ (st :: xt :: ts).toArray ty #[.slice base n c, .int .i64 l]).run P w =
      .ok (.slice (some ⟨w.heap.size, 0, none⟩) (n + l.toNat) cap) { w.drew with heap := w.heap.push (.cells (old ++ zeroRow z.cells (l.toNat * s) ++ Builtin.zeroCells z.cells (cap - (n + l.toNat))) el) } := by
  have hi' : ∀ w, (typeInfo el).run P w = .ok i w := fun w => by simp [typeInfo, hi]
  have hz' : ∀ w, (zeroValue el).run P w = .ok z w := fun w => by simp [zeroValue, hi', hz]
  have hk : l.toNat * i.bytes ≤ 140737488355328 := Nat.le_trans (Nat.mul_le_mul_right _ (Nat.le_add_left _ _)) hb
  have hl1 : n + l.toNat ≤ 140737488355328 := Nat.le_trans (Nat.le_mul_of_pos_right _ hb0) hb
  have hw : IntKind.i64.wrap l = l := wrap_small h0 (by omega)
  have h2 : ¬ l < 0 := by omega
  have h3 : ¬ 281474976710656 < l * i.bytes := by
    have h7 := Int.ofNat_le.2 hk
    rw [Int.natCast_mul, Int.toNat_of_nonneg h0] at h7
    omega
  have hzr : Builtin.zeroCells z.cells l.toNat = zeroRow z.cells (l.toNat * s) := by
    unfold Builtin.zeroCells zeroRow
    rw [hzs]
  have hfits := growslice_fits (need := n + l.toNat) (old := c) (by omega) hb
  have hb1 : ¬ i.bytes = 0 := by omega
  have hr : ∀ (N : Nat) (w : World), (askRoom N).run P w = .ok () w := fun N w => run_askRoom N
  have hno : ¬ 281474976710656 < Builtin.nextslicecap (n + l.toNat) c * i.bytes := by omega
  have hff : (Question.appendCap (n + l.toNat) c el).forced = false := rfl
  have hmx : ¬ 9223372036854775807 < (n : Int) + (l.toNat : Int) := by omega
  refine ⟨(Question.appendCap (n + l.toNat) c el).cut (w.tape w.drawn (Question.appendCap (n + l.toNat) c el)), by simp [Question.cut], ?_⟩
  have hn2 : ¬ s = 0 := by omega
  have hn : ¬ l.toNat * s = 0 := Nat.mul_ne_zero hk0 hn2
  have hmx' : ¬ 9223372036854775807 < (n : Int) + max l 0 := by omega
  simp only [Builtin.append_, Sem.run_bind]
  simp [run_underlying hu, run_underlying hx, run_tsize hs, hi', asInt, asIntOf, hw, h2, h3, hf, hz', hzr, hk0, hn, hn2, hO, hno, hff, hr, hmx, hmx', newRow, newObj, Sem.run, Array.append_assoc]
  rfl
end

theorem info_of {t : TypeId} {s b : Nat} {z : Value} (hs : tsize P t = some s) (hz : tzero P t = some z) (hb : tbytes P t = some b) : ∃ i, P.info? t = some i ∧ i.size = s ∧ i.zero = some z ∧ i.bytes = b := by
  unfold tsize at hs
  unfold tzero at hz
  unfold tbytes at hb
  cases hi : P.info? t with
  | none => rw [hi] at hs; cases hs
  | some i =>
    rw [hi] at hs hz hb
    exact ⟨i, rfl, Option.some.inj hs, hz, Option.some.inj hb⟩

/-- What is added, as the machine adds it. -/
structure Added (P : Program) (w : World) (st el ty : TypeId) (ts : List TypeId) (s b k : Nat) (z v : Value) (new : Array Value) : Prop where
  fit : ∀ (base : Option Addr) (n c : Nat), n + k ≤ c → (k = 0 ∨ (n + k) * b ≤ 140737488355328) → (Builtin.append_ (st :: ts).toArray ty #[.slice base n c, v]).run P w =
      match base with
      | some a => ((storeCells (a.add (n * s)) new.toList).run P w).andThen fun _ w' => .ok (.slice (some a) (n + k) c) w'
      | none => .ok (.slice none (n + k) c) w
  grow : ∀ (base : Option Addr) (n c : Nat) (old : Array Value), ¬ n + k ≤ c → k ≠ 0 → (n + k) * b ≤ 140737488355328 → (Builtin.firstCells s n (.slice base n c)).run P w.drew = .ok old w.drew →
      ∃ cap, n + k ≤ cap ∧ (Builtin.append_ (st :: ts).toArray ty #[.slice base n c, v]).run P w =
        .ok (.slice (some ⟨w.heap.size, 0, none⟩) (n + k) cap) { w.drew with heap := w.heap.push (.cells (old ++ new ++ Builtin.zeroCells z.cells (cap - (n + k))) el) }

theorem added_rel {st el ty : TypeId} {ts : List TypeId} {s b k : Nat} {z y v : Value} {new : List Value} (W : WRel P β m w) (hu : P.underlying st = some (.slice el))
    (hs : tsize P el = some s) (hz : tzero P el = some z) (hb : tbytes P el = some b) (hzo : zeroOk z = true) (hs0 : 0 < s) (hb0 : 0 < b) (hzs : z.cells.size = s) (hy : VRel β y v)
    (e : addedBy P ts.head? s z y m = some (k, new)) : ∃ new' : Array Value, ARel β new.toArray new' ∧ new'.size = k * s ∧ Added P w st el ty ts s b k z v new' := by
  obtain ⟨i, hi, his, hiz, hib⟩ := info_of hs hz hb
  subst hib
  unfold addedBy at e
  split at e
  · cases e
  · rename_i xt hxt
    cases ts with
    | nil => cases hxt
    | cons xt' tr =>
      obtain rfl : xt' = xt := by simpa using hxt
      split at e
      · rename_i kk l hx
        split at e
        · rename_i hl
          obtain ⟨rfl, rfl⟩ := Prod.mk.inj (Option.some.inj e)
          cases hy
          obtain ⟨hr, hk⟩ := zero_rel (β := β) hzo
          have hA := zeroRow_rel (n := l.toNat * s) (hr.cells hk) (by omega)
          refine ⟨zeroRow z.cells (l.toNat * s), by simpa using hA, zeroRow_size _ _, fun base n c hf hkb => ?_, fun base n c old hf hk0 hb hO => ?_⟩
          · exact append_fit_zeros hu hs hx hi hiz hb0 hl.1 (by
              rcases hkb with h | h
              · rw [h, Nat.zero_mul]; exact Nat.zero_le _
              · exact Nat.le_trans (Nat.mul_le_mul_right _ (Nat.le_add_left _ _)) h) hzs hs0 hf
          · exact append_grow_zeros hu hs hx hi hiz hb0 hl.1 hb hzs hs0 hf hk0 hO
        · cases e
      · rename_i bs hx
        split at e
        · rename_i h1
          subst h1
          obtain ⟨rfl, rfl⟩ := Prod.mk.inj (Option.some.inj e)
          cases hy
          have hfc : ∀ w : World, (Builtin.firstCells 1 bs.size (.string bs)).run P w = .ok (bs.data.map fun c => .int .u8 c.toNat) w := by
            intro w
            have : bs.extract 0 bs.size = bs := by simp
            simp [Builtin.firstCells, this]
          refine ⟨_, bytesRow_rel bs, by rw [Array.size_map, Nat.mul_one]; rfl, fun base n c hf hkb => ?_, fun base n c old hf hk0 hb hO => ?_⟩
          · exact append_fit hu hs hx (.inl rfl) (by simp [Builtin.lenOf]) hf (hfc w)
          · exact append_grow hu hs hx (.inl rfl) hi hiz hb0 (by simp [Builtin.lenOf]) hf hb hO (hfc _)
        · cases e
      · rename_i e0 a n q hx
        split at e
        · rename_i cs hcs
          obtain ⟨rfl, rfl⟩ := Prod.mk.inj (Option.some.inj e)
          obtain ⟨vs, hvs, r, hsz⟩ := shown_rel W (Nat.le_refl _) hy hcs
          have hl : ∀ w : World, (Builtin.lenOf v).run P w = .ok n w := by
            intro w
            cases hy <;> simp [Builtin.lenOf]
          refine ⟨vs, r, hsz, fun base n' c hf hkb => ?_, fun base n' c old hf hk0 hb hO => ?_⟩
          · exact append_fit hu hs hx (.inr ⟨_, rfl⟩) (hl w) hf (hvs w rfl)
          · exact append_grow hu hs hx (.inr ⟨_, rfl⟩) hi hiz hb0 (hl w) hf hb hO (hvs w.drew rfl)
        · cases e
      · cases e

theorem zeroCells_size (z : Array Value) (n : Nat) : (Builtin.zeroCells z n).size = n * z.size := by simp [Builtin.zeroCells]

theorem CRel.appended {cs : List Value} {c r : Array Value} (h : ARel β cs.toArray c) : CRel β cs (c ++ r) 0 := fun i x hx => by
  obtain ⟨v, hv, hr⟩ := h.get (i := i) (x := x) (by simpa using hx)
  have hlt : i < c.size := by
    rcases Nat.lt_or_ge i c.size with h' | h'
    · exact h'
    · rw [Array.getElem?_eq_none h'] at hv; cases hv
  exact ⟨h.ok i x (by simpa using hx), v, by rw [Nat.add_zero, Array.getElem?_append_left hlt]; exact hv, hr⟩

theorem ARel.append {xs ys : List Value} {a b : Array Value} (h : ARel β xs.toArray a) (k : ARel β ys.toArray b) : ARel β (xs ++ ys).toArray (a ++ b) := by
  have hl : xs.length = a.size := by simpa using h.size
  refine ⟨by have := k.size; simp at this; simp; omega, fun i x x' h1 h2 => ?_, fun i x h1 => ?_⟩
  · simp only [List.getElem?_toArray] at h1
    by_cases hi : i < xs.length
    · rw [List.getElem?_append_left hi] at h1
      rw [Array.getElem?_append_left (by omega)] at h2
      exact h.has i x x' (by simpa using h1) h2
    · rw [List.getElem?_append_right (by omega)] at h1
      rw [Array.getElem?_append_right (by omega), ← hl] at h2
      exact k.has (i - xs.length) x x' (by simpa using h1) h2
  · simp only [List.getElem?_toArray] at h1
    by_cases hi : i < xs.length
    · rw [List.getElem?_append_left hi] at h1
      exact h.ok i x (by simpa using h1)
    · rw [List.getElem?_append_right (by omega)] at h1
      exact k.ok (i - xs.length) x (by simpa using h1)

theorem opAppend_rel {ts : List TypeId} {xs vs : List Value} {x : Value} {m' : Mem} {ty : TypeId} (W : WRel P β m w) (hF : Free β m m') (hl : LRel β xs vs) (e : opAppend P ts xs m = some (x, m')) :
    ∃ z w' β', (Builtin.append_ ts.toArray ty vs.toArray).run P w = .ok z w' ∧ VRel β' x z ∧ Post P β m w m' β' w' := by
  unfold opAppend at e
  split at e
  · rename_i st tr a n q y
    match vs, hl with
    | [u, v], ⟨hu', hv', _⟩ =>
    split at e
    · rename_i el hu
      split at e
      · rename_i s z b hs hz hb
        split at e
        · rename_i hh
          obtain ⟨hzo, hs0, hb0, hzs⟩ := hh
          split at e
          · rename_i k new hadd
            obtain ⟨new', hA, hsz, hAdd⟩ := added_rel (ty := ty) W hu hs hz hb hzo hs0 hb0 hzs hv' hadd
            split at e
            · rename_i hk0
              obtain ⟨rfl, rfl⟩ := Prod.mk.inj (Option.some.inj e)
              subst hk0
              have hnil : new'.toList = [] := by
                have : new'.size = 0 := by rw [hsz, Nat.zero_mul]
                simpa using this
              cases hu' with
              | sliceNil =>
                exact ⟨_, w, β, hAdd.fit none 0 0 (Nat.le_refl _) (.inl rfl), .sliceNil, Post.refl W⟩
              | sliceEmpty hL =>
                rename_i i off a' L
                refine ⟨.slice (some a') 0 0, w, β, ?_, .sliceEmpty hL, Post.refl W⟩
                rw [show [Value.slice (some a') 0 0, v].toArray = #[Value.slice (some a') 0 0, v] from rfl, hAdd.fit _ 0 0 (Nat.le_refl _) (.inl rfl), hnil]
                simp [storeCells]
              | slice hL hn hc =>
                rename_i i off c L
                refine ⟨.slice (some ⟨L.g, off + L.sh, none⟩) n c, w, β, ?_, .slice hL hn hc, Post.refl W⟩
                rw [show [Value.slice (some ⟨L.g, off + L.sh, none⟩) n c, v].toArray = #[Value.slice (some ⟨L.g, off + L.sh, none⟩) n c, v] from rfl, hAdd.fit _ n _ hn (.inl rfl), hnil]
                simp [storeCells]
            · rename_i hk0
              split at e
              · rename_i hkb
                split at e
                · obtain ⟨rfl, rfl⟩ := Prod.mk.inj (Option.some.inj e)
                  cases hu' with
                  | sliceNil =>
                    obtain ⟨cap, hcap, hrun⟩ := hAdd.grow none 0 0 #[] (by omega) hk0 hkb (by simp [Builtin.firstCells])
                    have hsize : (#[] ++ new' ++ Builtin.zeroCells z.cells (cap - (0 + k))).size = cap * s := by
                      simp [zeroCells_size, hsz, hzs]
                      rw [← Nat.add_mul]
                      congr 1
                      omega
                    refine ⟨_, _, _, hrun, ?_, new_block W (hF _ (Nat.le_refl _) (by simp [Mem.new])) el rfl rfl rfl rfl (by have := hA.size; simp at this; simp; omega) (CRel.appended (by simpa using hA))⟩
                    have := VRel.slice (β := β.add m.next ⟨w.heap.size, 0, (#[] ++ new' ++ Builtin.zeroCells z.cells (cap - (0 + k))).size, esz P el⟩) (off := 0) (n := k) (c := cap) (Ren.add_self β m.next _) (by omega) (by rw [hsize, tsize_esz hs]; simp)
                    simpa [tsize_esz hs] using this
                · rename_i i off
                  split at e
                  · rename_i cs el' hm
                    split at e
                    · rename_i h3
                      obtain ⟨rfl, rfl, hend⟩ := h3
                      obtain ⟨rfl, rfl⟩ := Prod.mk.inj (Option.some.inj e)
                      have hFm : β m.next = none := hF _ (Nat.le_refl _) (by simp [Mem.new, Mem.kill])
                      have hnl : new.length = new'.size := by simpa using hA.size
                      cases hu' with
                      | sliceEmpty hL =>
                        rename_i a' L
                        obtain ⟨cap, hcap, hrun⟩ := hAdd.grow (some a') 0 0 #[] (by omega) hk0 hkb (by simp [Builtin.firstCells, loadCells, loadCellsFrom])
                        have hdrop : cs.drop off = [] := by rw [List.drop_eq_nil_iff]; omega
                        have hsize : (#[] ++ new' ++ Builtin.zeroCells z.cells (cap - (0 + k))).size = cap * q := by
                          simp [zeroCells_size, hsz, hzs]
                          rw [← Nat.add_mul]
                          congr 1
                          omega
                        rw [hdrop, List.nil_append]
                        refine ⟨_, _, _, hrun, ?_, post_new (L := ⟨w.heap.size, 0, (#[] ++ new' ++ Builtin.zeroCells z.cells (cap - (0 + k))).size, esz P el'⟩) W (Sub.kill m i) ?_ hFm rfl rfl rfl rfl rfl ⟨_, _, (0, 0), rfl, fun _ => rfl, rfl, rfl, ?_, by have := CRel.appended (r := Builtin.zeroCells z.cells (cap - (0 + k))) hA; simpa using this, fun _ => .inl rfl⟩⟩
                        · have := VRel.slice (β := β.add m.next ⟨w.heap.size, 0, (#[] ++ new' ++ Builtin.zeroCells z.cells (cap - (0 + k))).size, esz P el'⟩) (off := 0) (n := 0 + k) (c := cap) (Ren.add_self β m.next _) (by omega) (by rw [hsize, tsize_esz hs]; simp)
                          simpa [tsize_esz hs] using this
                        · intro j hj hjn
                          simp only [Mem.kill]
                          rw [if_neg]
                          rintro rfl
                          rw [hL] at hjn
                          cases hjn
                        · simp; omega
                      | slice hL hn hc =>
                        rename_i c L
                        obtain ⟨c0, fr, h4, h5, h6, h7, h8, h9⟩ := W.cells hm hL
                        by_cases hfit : n + k ≤ c
                        · -- in place
                          have hmul : n * L.sz + k * L.sz ≤ c * L.sz := by rw [← Nat.add_mul]; exact Nat.mul_le_mul_right _ hfit
                          have hrun := run_store_row (P := P) new'.toList (off + L.sh + n * L.sz) 0 c0 w h4 (by simp; omega) (unfrozen (h9 rfl)) (fun y hy => by
                            obtain ⟨j, hj⟩ := List.mem_iff_getElem?.1 hy
                            have hj' : new'[j]? = some y := by simpa using hj
                            have hlt : j < new.length := by
                              rw [hnl]
                              rcases Nat.lt_or_ge j new'.size with h' | h'
                              · exact h'
                              · rw [Array.getElem?_eq_none h'] at hj'; cases hj'
                            have hx : new.toArray[j]? = some new[j] := by simp [hlt]
                            have r := hA.has j new[j] y hx hj'
                            rw [r.okCell]
                            exact hA.ok j _ hx)
                          refine ⟨.slice (some ⟨L.g, off + L.sh, none⟩) (n + k) c, _, _, ?_, ?_, post_move W hm hL hFm h4 (sh := off + L.sh) (c1 := (c0.toList.take (off + L.sh + n * L.sz + 0) ++ new'.toList ++ c0.toList.drop (off + L.sh + n * L.sz + 0 + new'.toList.length)).toArray) ?_ ?_ ?_⟩
                          · rw [show [Value.slice (some ⟨L.g, off + L.sh, none⟩) n c, v].toArray = #[Value.slice (some ⟨L.g, off + L.sh, none⟩) n c, v] from rfl, hAdd.fit _ n c hfit (.inr hkb)]
                            simp only [addr_add, hrun, Result.andThen_ok]
                          · have := VRel.slice (β := β.add m.next ⟨L.g, off + L.sh, L.size, L.sz⟩) (off := 0) (n := n + k) (c := c) (Ren.add_self β m.next _) hfit (by simp only; omega)
                            simpa using this
                          · simp; omega
                          · simp; omega
                          · intro j x hj
                            simp only [List.getElem?_toArray]
                            by_cases hjn : j < n * L.sz
                            · rw [List.getElem?_append_left (by simp; omega), List.getElem?_drop] at hj
                              obtain ⟨hk, v0, hv0, r⟩ := h8 (off + j) x hj
                              refine ⟨hk, v0, ?_, r⟩
                              rw [List.append_assoc, List.getElem?_append_left (by simp; omega), List.getElem?_take, if_pos (by omega)]
                              rw [show j + (off + L.sh) = off + j + L.sh by omega]
                              simpa using hv0
                            · rw [List.getElem?_append_right (by simp; omega)] at hj
                              have e1 : j - (cs.drop off).length = j - n * L.sz := by simp; omega
                              rw [e1] at hj
                              obtain ⟨v0, hv0, r⟩ := hA.get (i := j - n * L.sz) (x := x) (by simpa using hj)
                              refine ⟨hA.ok _ x (by simpa using hj), v0, ?_, r⟩
                              have hlt : j - n * L.sz < new'.size := by
                                rcases Nat.lt_or_ge (j - n * L.sz) new'.size with h' | h'
                                · exact h'
                                · rw [Array.getElem?_eq_none h'] at hv0; cases hv0
                              rw [List.append_assoc, List.getElem?_append_right (by simp; omega), List.getElem?_append_left (by simp; omega)]
                              have e2 : j + (off + L.sh) - (c0.toList.take (off + L.sh + n * L.sz + 0)).length = j - n * L.sz := by simp; omega
                              rw [e2]
                              simpa using hv0
                        · -- a new row
                          obtain ⟨old, hold, hoA⟩ := loadCells_rel (off := off) (n := n * L.sz) W hm hL (by omega)
                          obtain ⟨cap, hcap, hrun⟩ := hAdd.grow (some ⟨L.g, off + L.sh, none⟩) n c old hfit hk0 hkb (by simp [Builtin.firstCells, hold w.drew rfl])
                          have hdrop : (cs.drop off).take (n * L.sz) = cs.drop off := List.take_of_length_le (by simp; omega)
                          rw [hdrop] at hoA
                          have hos : old.size = n * L.sz := by have := hoA.size; simp at this; omega
                          have hsize : (old ++ new' ++ Builtin.zeroCells z.cells (cap - (n + k))).size = cap * L.sz := by
                            simp [zeroCells_size, hsz, hzs, hos]
                            rw [← Nat.add_mul, ← Nat.add_mul]
                            congr 1
                            omega
                          refine ⟨_, _, _, hrun, ?_, post_new (L := ⟨w.heap.size, 0, (old ++ new' ++ Builtin.zeroCells z.cells (cap - (n + k))).size, esz P el'⟩) W (Sub.kill m i) ?_ hFm rfl rfl rfl rfl rfl ⟨_, _, (0, 0), rfl, fun _ => rfl, rfl, rfl, ?_, CRel.appended (hoA.append hA), fun _ => .inl rfl⟩⟩
                          · have := VRel.slice (β := β.add m.next ⟨w.heap.size, 0, (old ++ new' ++ Builtin.zeroCells z.cells (cap - (n + k))).size, esz P el'⟩) (off := 0) (n := n + k) (c := cap) (Ren.add_self β m.next _) hcap (by rw [hsize, tsize_esz hs]; simp)
                            simpa [tsize_esz hs] using this
                          · intro j hj hjn
                            simp only [Mem.kill]
                            rw [if_neg]
                            rintro rfl
                            rw [hL] at hjn
                            cases hjn
                          · simp; omega
                    · cases e
                  · cases e
                · cases e
              · cases e
          · cases e
        · cases e
      · cases e
    · cases e
  · cases e
end Go.AM

set_option linter.unusedSimpArgs false
set_option linter.unusedVariables false
namespace Go.AM
open Go
variable {P : Program} {β : Ren} {m : Mem} {w : World}

/-- Entries, one by one. -/
def MRel (β : Ren) (es : List (Value × Value)) (c : Array MapEntry) : Prop :=
  es.length = c.size ∧ ∀ (i : Nat) (e : Value × Value) (e' : MapEntry), es[i]? = some e → c[i]? = some e' → VRel β e.1 e'.key ∧ VRel β e.2 e'.val
theorem MRel.nil : MRel β [] #[] := ⟨rfl, fun i e e' h => by simp at h⟩

theorem WRel.mapBlk {i : Nat} {es : List (Value × Value)} {L : Loc} (W : WRel P β m w) (h : m.get i = some (.map es)) (hL : β i = some L) :
    ∃ c clk, w.heap[L.g]? = some (.map c clk) ∧ MRel β es c := W.blk i _ L h hL

theorem keyFit_ok : ∀ (d D : Nat) {t : TypeId} {k u : Value} (b : Bool), d ≤ D → VRel β k u → keyFit P d t k = true → (Instr.checkKey b D t u).run P w = .ok () w
  | 0, _, _, _, _, _, _, _, e => by cases e
  | d + 1, 0, _, _, _, _, h, _, _ => absurd h (by omega)
  | d + 1, D + 1, t, k, u, b, hd, hr, e => by
    simp only [keyFit] at e
    cases hu : P.underlying t with
    | none => rw [hu] at e; simp at e
    | some ty =>
      rw [hu] at e
      simp only [Instr.checkKey, Sem.run_bind, run_underlying hu, Result.andThen_ok]
      cases ty
      case struct fields =>
        cases hr with
        | agg hs h hk =>
          rename_i cs cs'
          have ha : ARel β cs cs' := ⟨hs, h, hk⟩
          simp only [List.all_eq_true] at e
          dsimp only
          rw [← Array.forIn_toList]
          have hall : ∀ (fs : List Field), (∀ f ∈ fs, (f.name == "_" || match partOf P f.type cs f.offset with | some x => keyFit P d f.type x | none => false) = true) →
              ((forIn fs PUnit.unit fun f _ => do
                if f.name ≠ "_" then do
                  let a ← part f.type cs' f.offset
                  Instr.checkKey b D f.type a
                  pure (ForInStep.yield PUnit.unit)
                else pure (ForInStep.yield PUnit.unit)) : Sem PUnit).run P w = .ok PUnit.unit w := by
            intro fs
            induction fs with
            | nil => intro _; rfl
            | cons f r ih =>
              intro hf
              rw [List.forIn_cons]
              have h1 := hf f (List.mem_cons_self ..)
              have h2 := ih fun g hg => hf g (List.mem_cons_of_mem _ hg)
              by_cases hn : f.name = "_"
              · simp only [hn, ne_eq, not_true_eq_false, if_false, Sem.run_bind, Sem.run_pure, Result.andThen_ok]
                exact h2
              · have hn' : (f.name == "_") = false := by simpa using hn
                rw [hn', Bool.false_or] at h1
                split at h1
                · rename_i x hx
                  obtain ⟨v, hv, rv⟩ := part_rel (w := w) ha hx
                  have h3 := keyFit_ok d D b (by omega) rv h1
                  simp only [hn, ne_eq, not_false_eq_true, if_true, Sem.run_bind, hv, h3, Result.andThen_ok, Sem.run_pure]
                  exact h2
                · cases h1
          have := hall fields.toList e
          simp only [Sem.run_bind] at this ⊢
          rw [this]
          rfl
        | _ => simp at e
      case array => simp at e
      case interface => simp at e
      all_goals (cases hr <;> rfl)

theorem sameNow_eq {d : TypeDesc} {kt : TypeId} {x y u v : Value} {b r : Bool} (hd : P.underlying kt = some d) (hx : VRel β x u) (hy : VRel β y v) (hs : Instr.sameNow d u v = some b) (e : eqIn P 40 kt x y = some r) : r = b := by
  unfold Instr.sameNow at hs
  split at hs
  · cases hx; cases hy
    simp only [eqIn, hd, eqCell] at e
    split at hs
    · rename_i hk
      rw [if_pos hk] at e
      exact (Option.some.inj e).symm.trans (Option.some.inj hs)
    · cases hs
  · cases hx; cases hy
    simp only [eqIn, hd, eqCell] at e
    exact (Option.some.inj e).symm.trans (Option.some.inj hs)
  · cases hx; cases hy
    simp only [eqIn, hd, eqCell] at e
    exact (Option.some.inj e).symm.trans (Option.some.inj hs)
  · cases hs

/-- What is found. -/
def FRel (β : Ren) : Option (Nat × Value) → Option (Nat × Value) → Prop
  | none, none => True
  | some (i, x), some (j, v) => i = j ∧ VRel β x v
  | _, _ => False

theorem findNow_rel {d : TypeDesc} {kt : TypeId} {k k' : Value} (hd : P.underlying kt = some d) (hk : VRel β k k') : ∀ {es : List (Value × Value)} {c : List MapEntry} {i : Nat} {r : Option (Nat × Value)} {r' : Option (Nat × Value)},
    es.length = c.length → (∀ (i : Nat) (e : Value × Value) (e' : MapEntry), es[i]? = some e → c[i]? = some e' → VRel β e.1 e'.key ∧ VRel β e.2 e'.val) →
    mfind P kt k es i = some r → Instr.findNow d k' c i = some r' → FRel β r r'
  | [], [], i, r, r', _, _, e, e' => by
    obtain rfl := Option.some.inj e
    obtain rfl := Option.some.inj e'
    trivial
  | x :: es, y :: c, i, r, r', hl, h, e, e' => by
    have h0 := h 0 x y rfl rfl
    have ht := fun j a b => h (j + 1) a b
    simp only [List.getElem?_cons_succ] at ht
    simp only [mfind] at e
    simp only [Instr.findNow] at e'
    split at e'
    · rename_i hs
      split at e
      · obtain rfl := Option.some.inj e
        obtain rfl := Option.some.inj e'
        exact ⟨rfl, h0.2⟩
      · rename_i he
        have := sameNow_eq hd hk h0.1 hs he
        cases this
      · cases e
    · rename_i hs
      split at e
      · rename_i he
        have := sameNow_eq hd hk h0.1 hs he
        cases this
      · exact findNow_rel hd hk (by simpa using hl) ht e e'
      · cases e
    · cases e'
  | [], _ :: _, _, _, _, hl, _, _, _ => by simp at hl
  | _ :: _, [], _, _, _, hl, _, _, _ => by simp at hl

theorem findAsking_rel {kt : TypeId} {k k' : Value} (hk : VRel β k k') : ∀ {es : List (Value × Value)} {c : List MapEntry} {i : Nat} {r : Option (Nat × Value)},
    es.length = c.length → (∀ (i : Nat) (e : Value × Value) (e' : MapEntry), es[i]? = some e → c[i]? = some e' → VRel β e.1 e'.key ∧ VRel β e.2 e'.val) →
    mfind P kt k es i = some r → ∃ r', (Instr.findAsking kt k' c i).run P w = .ok r' w ∧ FRel β r r'
  | [], [], i, r, _, _, e => by
    obtain rfl := Option.some.inj e
    exact ⟨none, rfl, trivial⟩
  | x :: es, y :: c, i, r, hl, h, e => by
    have h0 := h 0 x y rfl rfl
    have ht := fun j a b => h (j + 1) a b
    simp only [List.getElem?_cons_succ] at ht
    simp only [mfind] at e
    split at e
    · rename_i he
      obtain rfl := Option.some.inj e
      have h1 : (Op.equal kt k' y.key).run P w = .ok true w := eqIn_run 40 Op.maxDepth (by decide) hk h0.1 he
      exact ⟨some (i, y.val), by simp [Instr.findAsking, h1], rfl, h0.2⟩
    · rename_i he
      have h1 : (Op.equal kt k' y.key).run P w = .ok false w := eqIn_run 40 Op.maxDepth (by decide) hk h0.1 he
      obtain ⟨r', h2, h3⟩ := findAsking_rel hk (by simpa using hl) ht e
      exact ⟨r', by simp [Instr.findAsking, h1, h2], h3⟩
    · cases e
  | [], _ :: _, _, _, hl, _, _ => by simp at hl
  | _ :: _, [], _, _, hl, _, _ => by simp at hl

theorem findKey_rel {kt : TypeId} {k k' : Value} (hu : ∃ d, P.underlying kt = some d) (hk : VRel β k k') {es : List (Value × Value)} {c : Array MapEntry} {r : Option (Nat × Value)}
    (h : MRel β es c) (e : mfind P kt k es 0 = some r) : ∃ r', (Instr.findKey kt k' c.toList).run P w = .ok r' w ∧ FRel β r r' := by
  obtain ⟨d, hd⟩ := hu
  have hl : es.length = c.toList.length := by simpa using h.1
  have hh : ∀ (i : Nat) (e : Value × Value) (e' : MapEntry), es[i]? = some e → c.toList[i]? = some e' → VRel β e.1 e'.key ∧ VRel β e.2 e'.val := fun i a b h1 h2 => h.2 i a b h1 (by simpa using h2)
  simp only [Instr.findKey, Sem.run_bind, run_underlying hd, Result.andThen_ok]
  cases hf : Instr.findNow d k' c.toList 0 with
  | some r' => exact ⟨r', rfl, findNow_rel hd hk hl hh e hf⟩
  | none => exact findAsking_rel hk hl hh e

theorem keyFit_under {d : Nat} {t : TypeId} {k : Value} (h : keyFit P d t k = true) : ∃ ty, P.underlying t = some ty := by
  cases d with
  | zero => cases h
  | succ d =>
    simp only [keyFit] at h
    cases hu : P.underlying t with
    | none => rw [hu] at h; simp at h
    | some ty => exact ⟨ty, rfl⟩

/-- A map's entries, read. -/
theorem mapAt_rel {x u : Value} {es : List (Value × Value)} (W : WRel P β m w) (hx : VRel β x u) (e : mapAt m x = some es) :
    (u = .map none ∧ es = []) ∨ ∃ g c clk, u = .map (some g) ∧ w.heap[g]? = some (.map c clk) ∧ MRel β es c := by
  unfold mapAt at e
  split at e
  · cases hx
    exact .inl ⟨rfl, (Option.some.inj e).symm⟩
  · cases hx with
    | map hL =>
      split at e
      · rename_i hm
        obtain rfl := Option.some.inj e
        obtain ⟨c, clk, h1, h2⟩ := W.mapBlk hm hL
        exact .inr ⟨_, c, clk, rfl, h1, h2⟩
      · cases e
  · cases e

theorem run_getObj {g : Nat} {c : Array MapEntry} {k : Nat} (h : w.heap[g]? = some (.map c k)) : (getObj g).run P w = .ok (.map c k) w := by
  simp only [getObj, Sem.run, h]

theorem zero_tuple {z v : Value} {b : Bool} (h : VRel β z v) : VRel β (.tuple #[z, .bool b]) (.tuple #[v, .bool b]) := by
  refine .tuple rfl fun i x x' h1 h2 => ?_
  match i with
  | 0 => simp at h1 h2; subst h1 h2; exact h
  | 1 => simp at h1 h2; subst h1 h2; exact .bool b
  | i + 2 => simp at h1

theorem opLookup_rel {t : TypeId} {a b u v x : Value} {two : Bool} (W : WRel P β m w) (ha : VRel β a u) (hb : VRel β b v) (e : opLookup P t a b two m = some x) :
    ∃ z, (Instr.lookup t u v two).run P w = .ok z w ∧ VRel β x z := by
  unfold opLookup at e
  split at e
  · rename_i kt el hu
    split at e
    · rename_i es hes
      split at e
      · rename_i hk
        have hc : ∃ c : Array MapEntry, MRel β es c ∧ ∀ r', (Instr.findKey kt v c.toList).run P w = .ok r' w → (Instr.lookup t u v two).run P w = ((match r' with | some (_, v) => pure (v, true) | none => do pure (← zeroValue el, false) : Sem (Value × Bool)).run P w).andThen fun p w => .ok (if two then .tuple #[p.1, .bool p.2] else p.1) w := by
          rcases mapAt_rel W ha hes with ⟨rfl, rfl⟩ | ⟨g, c, clk, rfl, h1, h2⟩
          · have hck := keyFit_ok (w := w) 40 10000 (#[] : Array MapEntry).isEmpty (by decide) hb hk
            refine ⟨#[], MRel.nil, fun r' hr' => ?_⟩
            simp only [Instr.lookup, Sem.run_bind, run_underlying hu, Result.andThen_ok, Sem.run_pure, hck, hr']
            cases r' with
            | some r' => rfl
            | none => 
              simp only [Sem.run_bind, Sem.run_pure, Result.andThen_ok]
              cases (zeroValue el).run P w <;> rfl
          · have hck := keyFit_ok (w := w) 40 10000 c.isEmpty (by decide) hb hk
            refine ⟨c, h2, fun r' hr' => ?_⟩
            simp only [Instr.lookup, Sem.run_bind, run_underlying hu, Result.andThen_ok, Sem.run_pure, run_getObj h1, hck, hr']
            cases r' with
            | some r' => rfl
            | none => 
              simp only [Sem.run_bind, Sem.run_pure, Result.andThen_ok]
              cases (zeroValue el).run P w <;> rfl
        obtain ⟨c, hM, hrun⟩ := hc
        split at e
        · rename_i j y hf
          obtain rfl := Option.some.inj e
          obtain ⟨r', h1, h2⟩ := findKey_rel (w := w) (keyFit_under hk) hb hM hf
          cases r' with
          | none => exact h2.elim
          | some r' =>
            obtain ⟨j', y'⟩ := r'
            refine ⟨_, hrun _ h1, ?_⟩
            dsimp only
            cases two
            · exact h2.2
            · exact zero_tuple h2.2
        · rename_i hf
          obtain ⟨r', h1, h2⟩ := findKey_rel (w := w) (keyFit_under hk) hb hM hf
          cases r' with
          | some r' => exact h2.elim
          | none =>
            split at e
            · rename_i z hz
              split at e
              · rename_i hzo
                obtain rfl := Option.some.inj e
                refine ⟨if two then .tuple #[z, .bool false] else z, ?_, ?_⟩
                · rw [hrun _ h1]
                  simp [run_tzero hz]
                · cases two
                  · exact (zero_rel hzo).1
                  · exact zero_tuple (zero_rel hzo).1
              · cases e
            · cases e
        · cases e
      · cases e
    · cases e
  · cases e

theorem opMapLen_rel {t : TypeId} {ts : List TypeId} {a u x : Value} {ty : TypeId} (W : WRel P β m w) (ha : VRel β a u) (e : opMapLen P (some t) a m = some x) :
    (Builtin.len_ (t :: ts).toArray ty #[u]).run P w = .ok x w ∧ VRel β x x := by
  unfold opMapLen at e
  dsimp only at e
  split at e
  · rename_i kt el hu
    split at e
    · rename_i es hes
      obtain rfl := Option.some.inj e
      rcases mapAt_rel W ha hes with ⟨rfl, rfl⟩ | ⟨g, c, clk, rfl, h1, h2⟩
      · exact ⟨by simp [Builtin.len_, run_underlying hu, goInt], .int _ _⟩
      · exact ⟨by simp [Builtin.len_, run_underlying hu, run_getObj h1, goInt, h2.1], .int _ _⟩
    · cases e
  · cases e

/-- A map, written. -/
theorem run_setMap {g : Nat} {c c1 : Array MapEntry} {k k1 : Nat} (h : w.heap[g]? = some (.map c k)) : (setObj g (.map c1 k1)).run P w = .ok () { w with heap := w.heap.setIfInBounds g (.map c1 k1) } := by
  simp only [setObj, Sem.run, h]

theorem post_mset {i : Nat} {es es1 : List (Value × Value)} {L : Loc} {c1 : Array MapEntry} {k1 : Nat} (W : WRel P β m w) (hm : m.get i = some (.map es)) (hL : β i = some L)
    (hr : MRel β es1 c1) : Post P β m w (m.set i (.map es1)) β { w with heap := w.heap.setIfInBounds L.g (.map c1 k1) } := by
  have hlt : L.g < w.heap.size := W.dom i _ L hm hL
  have hget : ∀ k, (w.heap.setIfInBounds L.g (.map c1 k1))[k]? = if k = L.g then some (.map c1 k1) else w.heap[k]? := by
    intro k
    rw [Array.getElem?_setIfInBounds]
    by_cases h : k = L.g
    · subst h; simp [hlt]
    · rw [if_neg (fun e => h e.symm), if_neg h]
  refine ⟨⟨?_, ?_, ?_, ?_⟩, ⟨rfl, rfl, rfl, by simp, fun g hg hn => ?_⟩, Nat.le_refl _, fun _ _ => rfl, ?_, ?_, ?_⟩
  · intro j b L' hj hL'
    dsimp only
    rw [hget]
    simp only [Mem.set] at hj
    by_cases ej : j = i
    · subst ej
      rw [if_pos rfl] at hj
      obtain rfl := Option.some.inj hj
      rw [hL] at hL'
      obtain rfl := Option.some.inj hL'
      rw [if_pos rfl]
      exact ⟨c1, k1, rfl, hr.1, hr.2⟩
    · rw [if_neg ej] at hj
      have hne : L'.g ≠ L.g := fun e' => ej (W.inj j i b _ L' L hj hm hL' hL e' (.inr rfl))
      rw [if_neg hne]
      exact W.blk j b L' hj hL'
  · intro a b ba bb La Lb ha hb hLa hLb eg ho
    simp only [Mem.set] at ha hb
    have ha' : ∃ x, m.get a = some x ∧ (ba.own = true → x.own = true) := by
      by_cases h : a = i
      · exact ⟨_, h ▸ hm, fun _ => rfl⟩
      · rw [if_neg h] at ha; exact ⟨_, ha, id⟩
    have hb' : ∃ x, m.get b = some x ∧ (bb.own = true → x.own = true) := by
      by_cases h : b = i
      · exact ⟨_, h ▸ hm, fun _ => rfl⟩
      · rw [if_neg h] at hb; exact ⟨_, hb, id⟩
    obtain ⟨xa, ha', oa⟩ := ha'
    obtain ⟨xb, hb', ob⟩ := hb'
    exact W.inj a b xa xb La Lb ha' hb' hLa hLb eg (ho.imp oa ob)
  · intro j b L' hj hL'
    simp only [Array.size_setIfInBounds]
    simp only [Mem.set] at hj
    by_cases h : j = i
    · subst h
      exact W.dom j _ L' hm hL'
    · rw [if_neg h] at hj
      exact W.dom j b L' hj hL'
  · intro j hj
    simp only [Mem.set] at hj ⊢
    by_cases h : j = i
    · subst h
      have := W.fresh j hj
      rw [hm] at this
      cases this
    · rw [if_neg h]; exact W.fresh j hj
  · dsimp only
    rw [hget, if_neg]
    intro e'
    exact hn i _ L hm rfl hL e'.symm
  · intro j hj hn
    simp only [Mem.set]
    rw [if_neg]
    rintro rfl
    rw [hL] at hn
    cases hn
  · intro j b hj hb ho
    simp only [Mem.set] at hb
    by_cases h : j = i
    · subst h; exact ⟨_, hm, rfl⟩
    · rw [if_neg h] at hb; exact ⟨b, hb, ho⟩
  · intro j L' h7 h8
    exact absurd h8 (by simp only [Mem.set]; omega)

theorem keyCell_same {x y u v : Value} (hx : VRel β x u) (hy : VRel β y v) (h : keyCell x y = true) (d : Nat) : Instr.sameBits d u v = true := by
  unfold keyCell at h
  split at h
  · cases hx; cases hy; cases d <;> simpa [Instr.sameBits] using h
  · cases hx; cases hy; cases d <;> simpa [Instr.sameBits] using h
  · cases hx; cases hy; cases d <;> simpa [Instr.sameBits] using h
  · cases h

theorem keyList_same : ∀ {xs ys us vs : List Value}, LRel β xs us → LRel β ys vs → keyList xs ys = true → ∀ d : Nat, us.length = vs.length ∧ (us.zip vs).all (fun p => Instr.sameBits d p.1 p.2) = true
  | [], [], [], [], _, _, _, d => ⟨rfl, rfl⟩
  | x :: xs, y :: ys, u :: us, v :: vs, hx, hy, h, d => by
    simp only [keyList, Bool.and_eq_true] at h
    obtain ⟨h1, h2⟩ := keyList_same hx.2 hy.2 h.2 d
    refine ⟨by simp [h1], ?_⟩
    simp only [List.zip_cons_cons, List.all_cons, h2, Bool.and_true]
    exact keyCell_same hx.1 hy.1 h.1 d
  | [], _ :: _, _, _, _, _, h, _ => by cases h
  | _ :: _, [], _, _, _, _, h, _ => by cases h
  | [], [], _ :: _, _, h, _, _, _ => h.elim
  | [], [], _, _ :: _, _, h, _, _ => h.elim
  | _ :: _, _ :: _, [], _, h, _, _, _ => h.elim
  | _ :: _, _ :: _, _, [], _, h, _, _ => h.elim

theorem keySame_same {x y u v : Value} (hx : VRel β x u) (hy : VRel β y v) (h : keySame x y = true) : Instr.sameBits 10000 u v = true := by
  unfold keySame at h
  split at h
  · rename_i xs ys
    obtain ⟨us, rfl, ra⟩ := ARel.of_agg hx
    obtain ⟨vs, rfl, rb⟩ := ARel.of_agg hy
    have hra : xs.toList.length = us.toList.length := by rw [Array.length_toList, Array.length_toList, ra.size]
    have hrb : ys.toList.length = vs.toList.length := by rw [Array.length_toList, Array.length_toList, rb.size]
    obtain ⟨h1, h2⟩ := keyList_same (LRel.of hra fun i a b h1 h2 => ra.has i a b (by simpa using h1) (by simpa using h2)) (LRel.of hrb fun i a b h1 h2 => rb.has i a b (by simpa using h1) (by simpa using h2)) h 9999
    have h1' : us.size = vs.size := by simpa using h1
    simp only [Instr.sameBits, h1', beq_self_eq_true, Bool.true_and]
    exact h2
  · exact keyCell_same hx hy h 10000

theorem MRel.modify {es : List (Value × Value)} {c : Array MapEntry} (h : MRel β es c) {k v k' v' : Value} (hk : VRel β k k') (hv : VRel β v v') (j : Nat) :
    MRel β (es.set j (k, v)) (c.modify j fun e => { e with key := k', val := v' }) := by
  refine ⟨by simp [h.1], fun i e e' h1 h2 => ?_⟩
  rw [List.getElem?_set] at h1
  rw [Array.getElem?_modify] at h2
  split at h1
  · rename_i hij
    rw [if_pos hij] at h2
    split at h1
    · obtain rfl := Option.some.inj h1
      cases hc : c[i]? with
      | none => rw [hc] at h2; cases h2
      | some e0 =>
        rw [hc] at h2
        obtain rfl := Option.some.inj h2
        exact ⟨hk, hv⟩
    · cases h1
  · rename_i hij
    rw [if_neg hij] at h2
    exact h.2 i e e' h1 h2

theorem MRel.push {es : List (Value × Value)} {c : Array MapEntry} (h : MRel β es c) {k v k' v' : Value} (hk : VRel β k k') (hv : VRel β v v') (b : Nat) :
    MRel β (es ++ [(k, v)]) (c.push { key := k', val := v', born := b }) := by
  refine ⟨by simp [h.1], fun i e e' h1 h2 => ?_⟩
  rw [List.getElem?_append] at h1
  rw [Array.getElem?_push] at h2
  split at h1
  · rename_i hi
    rw [h.1] at hi
    rw [if_neg (by omega)] at h2
    exact h.2 i e e' h1 h2
  · rename_i hi
    rw [h.1] at hi
    by_cases hic : i = c.size
    · rw [if_pos hic] at h2
      obtain rfl := Option.some.inj h2
      rw [h.1, hic, Nat.sub_self] at h1
      obtain rfl := Option.some.inj h1
      exact ⟨hk, hv⟩
    · rw [if_neg hic, Array.getElem?_eq_none (by omega)] at h2
      cases h2

theorem MRel.erase {es : List (Value × Value)} {c : Array MapEntry} (h : MRel β es c) (j : Nat) : MRel β (es.eraseIdx j) (c.eraseIdxIfInBounds j) := by
  have hl : (c.eraseIdxIfInBounds j).toList = c.toList.eraseIdx j := by
    unfold Array.eraseIdxIfInBounds
    split
    · simp
    · rename_i hj
      rw [List.eraseIdx_of_length_le (by simpa using hj)]
  have hs : ∀ i : Nat, (c.eraseIdxIfInBounds j)[i]? = (c.toList.eraseIdx j)[i]? := fun i => by rw [← hl, Array.getElem?_toList]
  have hsz : (c.eraseIdxIfInBounds j).size = (c.toList.eraseIdx j).length := by rw [← hl, Array.length_toList]
  refine ⟨by rw [hsz, List.length_eraseIdx, List.length_eraseIdx, h.1]; simp, fun i e e' h1 h2 => ?_⟩
  rw [hs] at h2
  rw [List.getElem?_eraseIdx] at h1 h2
  split at h1
  · rename_i hij
    rw [if_pos hij] at h2
    exact h.2 i e e' h1 (by simpa using h2)
  · rename_i hij
    rw [if_neg hij] at h2
    exact h.2 (i + 1) e e' h1 (by simpa using h2)

theorem opMapUpdate_rel {t : TypeId} {a b d u v z : Value} {m' : Mem} (W : WRel P β m w) (ha : VRel β a u) (hb : VRel β b v) (hd : VRel β d z) (e : opMapUpdate P t a b d m = some m') :
    ∃ w', (Instr.mapUpdate t u v z).run P w = .ok () w' ∧ Post P β m w m' β w' := by
  unfold opMapUpdate at e
  split at e
  · rename_i kt el i hu
    cases ha with
    | map hL =>
      rename_i L
      split at e
      · rename_i es hm
        split at e
        · rename_i hk
          obtain ⟨c, clk, h1, hM⟩ := W.mapBlk hm hL
          have hck := keyFit_ok (w := w) 40 10000 false (by decide) hb hk
          split at e
          · rename_i j y hf
            obtain ⟨r', h2, h3⟩ := findKey_rel (w := w) (keyFit_under hk) hb hM hf
            cases r' with
            | none => exact h3.elim
            | some r' =>
              obtain ⟨j', y'⟩ := r'
              obtain ⟨rfl, h3⟩ := h3
              split at e
              · rename_i e0 he0
                split at e
                · rename_i hsame
                  obtain rfl := Option.some.inj e
                  have hj : j < c.size := by
                    rw [← hM.1]
                    rcases Nat.lt_or_ge j es.length with h' | h'
                    · exact h'
                    · rw [List.getElem?_eq_none h'] at he0; cases he0
                  have hcj : c[j]? = some c[j] := Array.getElem?_eq_getElem hj
                  have hs := keySame_same (hM.2 j e0 c[j] he0 hcj).1 hb hsame
                  refine ⟨_, ?_, post_mset (k1 := clk) W hm hL (hM.modify hb hd j)⟩
                  simp only [Instr.mapUpdate, Sem.run_bind, run_underlying hu, Result.andThen_ok, run_getObj h1, hck, h2, hcj, Option.map_some, Option.getD_some, Instr.keyThatStays, hs, if_true, Sem.run_pure, run_setMap h1]
                · cases e
              · cases e
          · rename_i hf
            obtain rfl := Option.some.inj e
            obtain ⟨r', h2, h3⟩ := findKey_rel (w := w) (keyFit_under hk) hb hM hf
            cases r' with
            | some r' => exact h3.elim
            | none =>
              refine ⟨_, ?_, post_mset (k1 := clk + 1) W hm hL (hM.push hb hd clk)⟩
              simp only [Instr.mapUpdate, Sem.run_bind, run_underlying hu, Result.andThen_ok, run_getObj h1, hck, h2, run_setMap h1]
          · cases e
        · cases e
      · cases e
  · cases e

theorem opDelete_rel {ts : List TypeId} {xs vs : List Value} {x : Value} {m' : Mem} {ty : TypeId} (W : WRel P β m w) (hl : LRel β xs vs) (e : opDelete P ts xs m = some (x, m')) :
    ∃ z w', (Builtin.delete_ ts.toArray ty vs.toArray).run P w = .ok z w' ∧ VRel β x z ∧ Post P β m w m' β w' := by
  unfold opDelete at e
  split at e
  · rename_i t tr i k
    match vs, hl with
    | [u, v], ⟨ha, hb, _⟩ =>
    split at e
    · rename_i kt el hu
      cases ha with
      | map hL =>
        rename_i L
        split at e
        · rename_i es hm
          split at e
          · rename_i hk
            obtain ⟨c, clk, h1, hM⟩ := W.mapBlk hm hL
            have hck := keyFit_ok (w := w) 40 10000 c.isEmpty (by decide) hb hk
            split at e
            · rename_i j y hf
              obtain ⟨rfl, rfl⟩ := Prod.mk.inj (Option.some.inj e)
              obtain ⟨r', h2, h3⟩ := findKey_rel (w := w) (keyFit_under hk) hb hM hf
              cases r' with
              | none => exact h3.elim
              | some r' =>
                obtain ⟨j', y'⟩ := r'
                obtain ⟨rfl, h3⟩ := h3
                refine ⟨.tuple #[], _, ?_, .tuple rfl (fun i x x' h => by simp at h), post_mset (k1 := clk) W hm hL (hM.erase j)⟩
                simp only [Builtin.delete_, Sem.run_bind, List.getElem?_toArray, List.getElem?_cons_zero, List.getElem?_cons_succ, run_underlying hu, Result.andThen_ok, run_getObj h1, hck, h2, run_setMap h1, Sem.run_pure]
            · rename_i hf
              obtain ⟨rfl, rfl⟩ := Prod.mk.inj (Option.some.inj e)
              obtain ⟨r', h2, h3⟩ := findKey_rel (w := w) (keyFit_under hk) hb hM hf
              cases r' with
              | some r' => exact h3.elim
              | none =>
                refine ⟨.tuple #[], _, ?_, .tuple rfl (fun i x x' h => by simp at h), post_mset (k1 := clk) W hm hL hM⟩
                simp only [Builtin.delete_, Sem.run_bind, List.getElem?_toArray, List.getElem?_cons_zero, List.getElem?_cons_succ, run_underlying hu, Result.andThen_ok, run_getObj h1, hck, h2, run_setMap h1, Sem.run_pure]
            · cases e
          · cases e
        · cases e
    · cases e
  · cases e

theorem opMakeMap_rel {t : TypeId} (W : WRel P β m w) (hF : Free β m (m.new (.map []))) :
    ∃ z w' β', (Instr.makeMap t none).run P w = .ok z w' ∧ VRel β' (.map (some m.next)) z ∧ Post P β m w (m.new (.map [])) β' w' := by
  refine ⟨.map (some w.heap.size), { w with heap := w.heap.push (.map #[] 0) }, _, ?_, ?_, post_new (L := ⟨w.heap.size, 0, 0, 0⟩) W (Sub.refl m) (fun _ _ _ => rfl) (hF _ (Nat.le_refl _) (by simp [Mem.new])) rfl rfl rfl rfl rfl ⟨#[], 0, rfl, rfl, fun i e e' h => by simp at h⟩⟩
  · simp [Instr.makeMap, newObj, Sem.run]
  · exact VRel.map (Ren.add_self β m.next _)
end Go.AM

set_option linter.unusedSimpArgs false
set_option linter.unusedVariables false
namespace Go.AM
open Go
variable {P : Program} {β : Ren} {m : Mem} {w : World}

theorem freeze_push (w : World) (c : Array Value) (e : TypeId) (k : Nat) :
    (({ w with heap := w.heap.push (.cells c e) } : World).freeze ⟨w.heap.size, k, none⟩ 1).heap = w.heap.push (.cells c e (k, k + 1)) := by
  unfold World.freeze
  rw [if_neg (by decide)]
  apply Array.ext
  · simp
  · intro i h1 h2
    simp only [Array.getElem_modify, Array.getElem_push]
    by_cases h : w.heap.size = i
    · subst h
      simp
    · have hi : i < w.heap.size := by simp at h1; omega
      simp [h, hi]

/-- A block's marks, set behind its end. -/
theorem post_freeze {i : Nat} {cs : List Value} {e : TypeId} {L : Loc} {c : Array Value} {fr : Nat × Nat} (W : WRel P β m w) (hm : m.get i = some (.cells cs e true)) (hL : β i = some L)
    (hc : w.heap[L.g]? = some (.cells c e fr)) : Post P β m w m β (w.freeze ⟨L.g, c.size, none⟩ 1) := by
  obtain ⟨c0, fr0, h1, h2, h3, h4, h5, h6⟩ := W.cells hm hL
  rw [hc] at h1
  obtain ⟨rfl, -, rfl⟩ : c = c0 ∧ e = e ∧ fr = fr0 := by injection h1 with h1; injection h1 with a b d; exact ⟨a, rfl, d⟩
  have hlt : L.g < w.heap.size := W.dom i _ L hm hL
  have hget : ∀ k, (w.freeze ⟨L.g, c.size, none⟩ 1).heap[k]? = if k = L.g then some (.cells c e (if fr.1 == fr.2 then (c.size, c.size + 1) else (min fr.1 c.size, max fr.2 (c.size + 1)))) else w.heap[k]? := by
    intro k
    unfold World.freeze
    rw [if_neg (by decide)]
    simp only [Array.getElem?_modify]
    by_cases h : k = L.g
    · subst h
      simp only [if_true, hc, Option.map_some]
    · rw [if_neg h, if_neg (fun e => h e.symm)]
  have hsz : (w.freeze ⟨L.g, c.size, none⟩ 1).heap.size = w.heap.size := by
    unfold World.freeze
    rw [if_neg (by decide)]
    simp
  have hrest : (w.freeze ⟨L.g, c.size, none⟩ 1).os = w.os ∧ (w.freeze ⟨L.g, c.size, none⟩ 1).tape = w.tape ∧ (w.freeze ⟨L.g, c.size, none⟩ 1).output = w.output := by
    unfold World.freeze
    rw [if_neg (by decide)]
    exact ⟨rfl, rfl, rfl⟩
  refine ⟨⟨?_, W.inj, fun j b L' hj hL' => by rw [hsz]; exact W.dom j b L' hj hL', W.fresh⟩, ⟨hrest.1, hrest.2.1, hrest.2.2, by rw [hsz]; exact Nat.le_refl _, fun g hg hn => ?_⟩, Nat.le_refl _, fun _ _ => rfl, fun _ _ _ => rfl, fun j b _ h h' => ⟨b, h, h'⟩, fun j L' h7 h8 => absurd h8 (by omega)⟩
  · intro j b L' hj hL'
    rw [hget]
    by_cases hg : L'.g = L.g
    · rw [if_pos hg]
      obtain rfl := W.inj j i b _ L' L hj hm hL' hL hg (.inr rfl)
      rw [hm] at hj
      obtain rfl := Option.some.inj hj
      rw [hL] at hL'
      obtain rfl := Option.some.inj hL'
      refine ⟨c, e, _, rfl, fun _ => rfl, h2, h3, h4, h5, fun _ => ?_⟩
      by_cases hlh : fr.1 = fr.2
      · simp [hlh]
      · rcases h6 rfl with h | h
        · exact absurd h hlh
        · simp [hlh]; omega
    · rw [if_neg hg]
      exact W.blk j b L' hj hL'
  · rw [hget, if_neg]
    intro e'
    exact hn i _ L hm rfl hL e'.symm

theorem push_all : ∀ (ns : List Int) (acc : ByteArray), (ns.foldl (fun r n => r.push (UInt8.ofNat n.toNat)) acc).data = acc.data ++ (ns.map fun n => UInt8.ofNat n.toNat).toArray
  | [], acc => by simp
  | n :: r, acc => by
    rw [List.foldl_cons, push_all r]
    simp [ByteArray.push]

theorem LRel.of_arel {cs : List Value} {vs : Array Value} (h : ARel β cs.toArray vs) : LRel β cs vs.toList :=
  LRel.of (by simpa using h.size) fun i x v h1 h2 => h.has i x v (by simpa using h1) (by simpa using h2)

theorem opConvert_rel {src dst : TypeId} {a u x : Value} {m' : Mem} (W : WRel P β m w) (hF : Free β m m') (ha : VRel β a u) (e : opConvert P src dst a m = some (x, m')) :
    ∃ z w' β', (convert src dst u).run P w = .ok z w' ∧ VRel β' x z ∧ Post P β m w m' β' w' := by
  unfold opConvert at e
  split at e
  · rename_i d k k0 n hs hd
    obtain ⟨rfl, rfl⟩ := Prod.mk.inj (Option.some.inj e)
    cases ha
    exact ⟨.int k (k.wrap n), w, β, by simp [convert, run_underlying hs, run_underlying hd, Conv.intToInt], .int _ _, Post.refl W⟩
  · rename_i d s hs hd
    obtain ⟨rfl, rfl⟩ := Prod.mk.inj (Option.some.inj e)
    cases ha
    exact ⟨.string s, w, β, by simp [convert, run_underlying hs, run_underlying hd], .string _, Post.refl W⟩
  · rename_i el s hs hd
    split at e
    · rename_i he
      split at e
      · rename_i hh
        obtain ⟨rfl, rfl⟩ := Prod.mk.inj (Option.some.inj e)
        cases ha
        have hA := bytesRow_rel (β := β) s
        have hff : (Question.appendCap s.size 0 el).forced = false := rfl
        let cap := (Question.appendCap s.size 0 el).cut (w.tape w.drawn (Question.appendCap s.size 0 el))
        have hcap : s.size ≤ cap := by simp [cap, Question.cut]
        let row : Array Value := (s.data.map fun c => Value.int .u8 c.toNat) ++ Array.replicate (cap - s.size) (.int .u8 0)
        have hrs : row.size = cap := by
          have : s.data.size = s.size := rfl
          simp [row]; omega
        refine ⟨.slice (some ⟨w.heap.size, 0, none⟩) s.size cap, ({ w.drew with heap := w.heap.push (.cells row el) } : World).freeze ⟨w.heap.size, row.size, none⟩ 1, _, ?_, ?_,
          post_new (L := ⟨w.heap.size, 0, row.size, esz P el⟩) (b := .cells (cellsOfBytes s) el true) (o := .cells row el (row.size, row.size + 1)) W (Sub.refl m) (fun _ _ _ => rfl) (hF _ (Nat.le_refl _) (by simp [Mem.new])) rfl (freeze_push w.drew row el row.size) rfl rfl rfl ⟨row, _, (row.size, row.size + 1), rfl, fun _ => rfl, rfl, rfl, by have := hA.size; simp at this; simp [row]; omega, CRel.appended hA, fun _ => .inr (Nat.le_refl _)⟩⟩
        · have hsh : ({ w.drew with heap := w.heap.push (.cells row el) } : World).shape? w.heap.size = some (el, row.size) := by simp [World.shape?]
          simp only [convert, Sem.run_bind, run_underlying hs, run_underlying hd, Result.andThen_ok, run_underlying he, Conv.stringToBytes]
          simp only [choose, Sem.run, hff, Bool.false_eq_true, if_false, Result.andThen_ok]
          simp only [newRow, newObj, Sem.run_bind, Sem.run, Result.andThen_ok, Sem.run_pure, markStringish, shape, freeze]
          simp only [World.shape?, Array.getElem?_push_size, Sem.run, Result.andThen_ok]
          rfl
        · have := VRel.slice (β := β.add m.next ⟨w.heap.size, 0, row.size, esz P el⟩) (off := 0) (n := s.size) (c := cap) (Ren.add_self β m.next _) hcap (by simp [tsize_esz hh.2]; omega)
          simpa [tsize_esz hh.2] using this
      · cases e
    · cases e
  · rename_i e0 el i off n z hs hd
    split at e
    · rename_i cs e1 hsd he hm
      split at e
      · rename_i hn
        obtain ⟨rfl, rfl⟩ := Prod.mk.inj (Option.some.inj e)
        cases ha with
        | sliceEmpty hL => omega
        | slice hL hnc hc =>
          rename_i c L
          obtain ⟨c0, fr, h4, h5, h6, h7, h8, h9⟩ := W.cells hm hL
          refine ⟨.slice (some ⟨L.g, off + L.sh, none⟩) n c, _, β, ?_, .slice hL hnc hc, post_freeze W hm hL h4⟩
          have hsh : w.shape? L.g = some (e1, c0.size) := by simp [World.shape?, h4]
          simp [convert, run_underlying hs, run_underlying hd, run_underlying he, hsd, markStringish, hsh]
      · cases e
    · cases e
  · rename_i el a n z hs hd
    split at e
    · rename_i he
      split at e
      · rename_i cs hcs
        split at e
        · rename_i l hl
          obtain ⟨rfl, rfl⟩ := Prod.mk.inj (Option.some.inj e)
          obtain ⟨vs, hvs, r, hsz⟩ := shown_rel W (Nat.le_refl _) ha hcs
          obtain ⟨ns, hns, rfl⟩ := bytes_rel (LRel.of_arel r) hl
          have hst : ∀ s : ByteArray, s.data = (ns.map fun n => UInt8.ofNat n.toNat).toArray → s = ⟨(ns.map fun n => UInt8.ofNat n.toNat).toArray⟩ := fun s h => by cases s; simp_all
          have hfold := hst (ns.foldl (fun r n => r.push (UInt8.ofNat n.toNat)) ByteArray.empty) (by rw [push_all]; simp)
          have hvs' : vs = (ns.map (Value.int .u8)).toArray := by rw [← hns]
          cases ha with
          | sliceNil =>
            have : ns = [] := by
              have : ns.length = 0 := by rw [hvs'] at hsz; simpa using hsz
              simpa using this
            subst this
            exact ⟨.string .empty, w, β, by simp [convert, run_underlying hs, run_underlying hd, run_underlying he, Conv.bytesToString], by rw [← hfold]; exact .string _, Post.refl W⟩
          | sliceEmpty hL =>
            rename_i i off a' L
            have h1 := hvs w rfl
            simp only [Builtin.firstCells, Nat.mul_one] at h1
            rw [hvs'] at h1
            refine ⟨.string (ns.foldl (fun r n => r.push (UInt8.ofNat n.toNat)) ByteArray.empty), w, β, ?_, ?_, Post.refl W⟩
            · rw [run_convert_bytes_string w src dst el (some a') 0 0 hs he hd]
              exact run_bytesToString w a' 0 0 ns h1
            · rw [hfold]; exact .string _
          | slice hL hnc hc =>
            rename_i i off c L
            have h1 := hvs w rfl
            simp only [Builtin.firstCells, Nat.mul_one] at h1
            rw [hvs'] at h1
            refine ⟨.string (ns.foldl (fun r n => r.push (UInt8.ofNat n.toNat)) ByteArray.empty), w, β, ?_, ?_, Post.refl W⟩
            · rw [run_convert_bytes_string w src dst el (some ⟨L.g, off + L.sh, none⟩) n c hs he hd]
              exact run_bytesToString w _ n c ns h1
            · rw [hfold]; exact .string _
        · cases e
      · cases e
    · cases e
  · cases e

theorem opCopy_rel {ts : List TypeId} {xs vs : List Value} {x : Value} {m' : Mem} {ty : TypeId} (W : WRel P β m w) (hl : LRel β xs vs) (e : opCopy P ts xs m = some (x, m')) :
    ∃ z w', (Builtin.copy_ ts.toArray ty vs.toArray).run P w = .ok z w' ∧ VRel β x z ∧ Post P β m w m' β w' := by
  unfold opCopy at e
  split at e
  · rename_i st tr i off n q a k r
    match vs, hl with
    | [u, v], ⟨hu', hv', _⟩ =>
    split at e
    · rename_i el hu
      split at e
      · rename_i s cs e' hs hm
        split at e
        · rename_i new hnew
          obtain ⟨vs, hvs, hA, hsz⟩ := shown_rel W (Nat.min_le_left _ _) hv' hnew
          have hlen : (Builtin.lenOf v).run P w = .ok k w := by cases hv' <;> simp [Builtin.lenOf]
          have hrun : ∀ (A : Addr) (n' c : Nat), n' = n → (Builtin.copy_ (st :: tr).toArray ty [Value.slice (some A) n' c, v].toArray).run P w =
              ((storeCells A vs.toList).run P w).andThen fun _ w' => .ok (.int .i64 (min k n : Nat)) w' := by
            rintro A n' c rfl
            have h1 := hvs w rfl
            simp only [Builtin.copy_, Sem.run_bind, List.getElem?_toArray, List.getElem?_cons_zero, List.getElem?_cons_succ, run_underlying hu, Result.andThen_ok, hlen, run_tsize hs]
            have h2 : (Builtin.firstCells s (k.min n') v).run P w = .ok vs w := h1
            simp only [h2, Result.andThen_ok, Sem.run_bind, Sem.run_pure, goInt]
          split at e
          · rename_i h0
            obtain ⟨rfl, rfl⟩ := Prod.mk.inj (Option.some.inj e)
            have hnil : vs.toList = [] := by
              have : vs.size = 0 := by rw [hsz, h0, Nat.zero_mul]
              simpa using this
            refine ⟨.int .i64 (min k n : Nat), w, ?_, .int _ _, Post.refl W⟩
            cases hu' with
            | sliceEmpty hL =>
              rw [hrun _ 0 0 rfl, hnil]
              simp [storeCells]
            | slice hL hn hc =>
              rw [hrun _ n _ rfl, hnil]
              simp [storeCells]
          · rename_i h0
            split at e
            · rename_i hh
              obtain ⟨rfl, rfl, hend⟩ := hh
              obtain ⟨rfl, rfl⟩ := Prod.mk.inj (Option.some.inj e)
              cases hu' with
              | sliceEmpty hL => exact absurd (Nat.min_zero _) h0
              | slice hL hn hc =>
                rename_i c L
                obtain ⟨c0, fr, h4, h5, h6, h7, h8, h9⟩ := W.cells hm hL
                have hnl : new.length = vs.size := by simpa using hA.size
                have hle : min k n * L.sz ≤ n * L.sz := Nat.mul_le_mul_right _ (Nat.min_le_right _ _)
                have hfit : off + new.length ≤ cs.length := by omega
                have hset := CRel.set (vs := vs.toList) h8 h7 (xs := new) (by simpa using hA) hfit
                have hst := run_store_row (P := P) vs.toList (off + L.sh) 0 c0 w h4 (by simp; omega) (unfrozen (h9 rfl)) (fun y hy => by
                  obtain ⟨j, hj⟩ := List.mem_iff_getElem?.1 hy
                  have hj' : vs[j]? = some y := by simpa using hj
                  have hlt : j < new.length := by
                    rw [hnl]
                    rcases Nat.lt_or_ge j vs.size with h' | h'
                    · exact h'
                    · rw [Array.getElem?_eq_none h'] at hj'; cases hj'
                  have hx : new.toArray[j]? = some new[j] := by simp [hlt]
                  have r := hA.has j new[j] y hx hj'
                  rw [r.okCell]
                  exact hA.ok j _ hx)
                refine ⟨.int .i64 (min k n : Nat), _, ?_, .int _ _, post_set W hm hL h4 (c1 := (c0.toList.take (off + L.sh) ++ vs.toList ++ c0.toList.drop (off + L.sh + vs.toList.length)).toArray) hset.2.2 (by rw [hset.2.1, hset.2.2]; exact h7) hset.1⟩
                rw [hrun _ n _ rfl, hst]
                simp
            · cases e
        · cases e
      · cases e
    · cases e
  · cases e

/-- An operation that calls no function of the program. -/
theorem evOp_ok {N : Nat} {env : Env} {a : Act} {o : Oper} {x : Value} {m' : Mem} (hcl : ∀ c, o.op = .call c → False) (E : ERel β N env a) (W : WRel P β m w) (hF : Free β m m') (e : evOp P env o.op m = some (x, m')) :
    OpOk P β m w x m' ((execOp a.eval o).run P w) := by
  have one : ∀ {s : Sem Value} {v : Value}, (execOp a.eval o = do pure (.value (← s))) → s.run P w = .ok v w → VRel β x v → m = m' → OpOk P β m w x m' ((execOp a.eval o).run P w) := by
    rintro s v h1 h2 h3 rfl
    exact .same W (by rw [h1]; simp [h2]) h3
  have kp : ∀ {v : Option Value}, keep m v = some (x, m') → v = some x ∧ m = m' := by
    intro v h
    unfold keep at h
    split at h
    · obtain ⟨rfl, rfl⟩ := Prod.mk.inj (Option.some.inj h); exact ⟨rfl, rfl⟩
    · cases h
  unfold evOp at e
  split at e
  · rename_i y ho
    obtain ⟨h1, rfl⟩ := kp e
    exact .same W (by simp [execOp, ho]) (ev1_rel E h1)
  · rename_i y ho
    obtain ⟨h1, rfl⟩ := kp e
    exact .same W (by simp [execOp, ho]) (ev1_rel E h1)
  · rename_i c y z ho
    split at e
    · rename_i hc
      obtain ⟨h1, rfl⟩ := kp e
      have hr := ev1_rel E hc
      generalize hg : a.eval c = u at hr
      cases hr
      exact .same W (by simp [execOp, ho, hg, asBool]) (ev1_rel E h1)
    · rename_i hc
      obtain ⟨h1, rfl⟩ := kp e
      have hr := ev1_rel E hc
      generalize hg : a.eval c = u at hr
      cases hr
      exact .same W (by simp [execOp, ho, hg, asBool]) (ev1_rel E h1)
    · cases e
  · rename_i t ho
    obtain ⟨v, w', β', h1, h2, h3⟩ := opAlloc_rel W hF e
    exact ⟨v, w', β', .inl (by simp [execOp, ho, h1]), h2, h3⟩
  · rename_i t y ho
    split at e
    · rename_i u hu
      obtain ⟨v, w', β', h1, h2, h3⟩ := opBox_rel W hF (ev1_rel E hu) e
      exact ⟨v, w', β', .inl (by simp [execOp, ho, h1]), h2, h3⟩
    · cases e
  · rename_i t parts ho
    split at e
    · rename_i us hus
      obtain ⟨h1, rfl⟩ := kp e
      obtain ⟨v, h2, h3⟩ := opBuild_rel (w := w) (evParts_rel E hus) h1
      refine .same W ?_ h3
      have hp : (parts.map fun (i, x) => (i, a.eval x)) = (parts.toList.map fun (i, x) => (i, a.eval x)).toArray := by apply Array.ext'; simp
      simp only [execOp, ho]
      rw [hp]
      simp [h2]
    · cases e
  · rename_i t len parts ho
    split at e
    · rename_i us hus
      obtain ⟨v, w', β', h1, h2, h3⟩ := opBuildSlice_rel W hF (evParts_rel E hus) e
      refine ⟨v, w', β', .inl ?_, h2, h3⟩
      have hp : (parts.map fun (i, x) => (i, a.eval x)) = (parts.toList.map fun (i, x) => (i, a.eval x)).toArray := by apply Array.ext'; simp
      simp only [execOp, ho]
      rw [hp]
      simp [h1]
    · cases e
  · rename_i t y ho
    split at e
    · rename_i u hu
      obtain ⟨h1, rfl⟩ := kp e
      obtain ⟨v, h2, h3⟩ := opLoad_rel W (ev1_rel E hu) h1
      exact .same W (by simp [execOp, ho, h2]) h3
    · cases e
  · rename_i t y z ho
    split at e
    · rename_i u v hu hv
      split at e
      · rename_i m1 hm1
        obtain ⟨rfl, rfl⟩ := Prod.mk.inj (Option.some.inj e)
        obtain ⟨w', h1, h2⟩ := opStore_rel W (ev1_rel E hu) (ev1_rel E hv) hm1
        exact ⟨undef, w', β, .inr ⟨by simp [execOp, ho, h1], rfl⟩, .tuple rfl (fun i x x' h => by simp at h), h2⟩
      · cases e
    · cases e
  · rename_i y ho
    split at e
    · rename_i p hp
      obtain ⟨rfl, rfl⟩ := Prod.mk.inj (Option.some.inj e)
      have hr := ev1_rel E hp
      have hr0 := hr
      generalize hg : a.eval y = u at hr
      cases hr
      exact .same W (v := a.eval y) (by simp [execOp, ho, hg]) hr0
    · rename_i f b c hp
      obtain ⟨rfl, rfl⟩ := Prod.mk.inj (Option.some.inj e)
      have hr := ev1_rel E hp
      have hr0 := hr
      generalize hg : a.eval y = u at hr
      cases hr
      exact .same W (v := a.eval y) (by simp [execOp, ho, hg]) hr0
    · cases e
  · rename_i op t y z ty ho
    split at e
    · rename_i u v hu hv
      obtain ⟨h1, rfl⟩ := kp e
      obtain ⟨r, h2, h3⟩ := binV_rel (P := P) (w := w) (X := y) (Y := z) (ev1_rel E hu) (ev1_rel E hv) h1
      refine .same W ?_ h3
      simp only [execOp, ho]
      rw [Sem.run_bind, h2]
      rfl
    · cases e
  · rename_i op t y ho
    split at e
    · rename_i u hu
      obtain ⟨h1, rfl⟩ := kp e
      obtain ⟨r, h2, h3⟩ := unV_rel (P := P) (w := w) (ev1_rel E hu) h1
      exact .same W (by simp [execOp, ho, h2]) h3
    · cases e
  · rename_i src dst y ho
    split at e
    · rename_i u hu
      obtain ⟨v, w', β', h1, h2, h3⟩ := opConvert_rel W hF (ev1_rel E hu) e
      exact ⟨v, w', β', .inl (by simp [execOp, ho, h1]), h2, h3⟩
    · cases e
  · rename_i t y lo hi ho
    split at e
    · rename_i u l h hu hl hh
      obtain ⟨h1, rfl⟩ := kp e
      obtain ⟨r, h2, h3⟩ := opSlice_rel (P := P) (w := w) (ev1_rel E hu) (evOpt_rel E hl) (evOpt_rel E hh) h1
      exact .same W (by simp [execOp, ho, h2]) h3
    · cases e
  · rename_i s y f ho
    split at e
    · rename_i u hu
      obtain ⟨h1, rfl⟩ := kp e
      obtain ⟨r, h2, h3⟩ := opFieldAddr_rel (P := P) (w := w) (ev1_rel E hu) h1
      exact .same W (by simp [execOp, ho, h2]) h3
    · cases e
  · rename_i s y f ho
    split at e
    · rename_i u hu
      obtain ⟨h1, rfl⟩ := kp e
      obtain ⟨r, h2, h3⟩ := opField_rel (P := P) (w := w) (ev1_rel E hu) h1
      exact .same W (by simp [execOp, ho, h2]) h3
    · cases e
  · rename_i t y z ho
    split at e
    · rename_i u v hu hv
      obtain ⟨h1, rfl⟩ := kp e
      obtain ⟨r, h2, h3⟩ := opIndexAddr_rel (P := P) (w := w) (ev1_rel E hu) (ev1_rel E hv) h1
      exact .same W (by simp [execOp, ho, h2]) h3
    · cases e
  · rename_i t y z ho
    split at e
    · rename_i u v hu hv
      obtain ⟨h1, rfl⟩ := kp e
      obtain ⟨r, h2, h3⟩ := opIndex_rel (P := P) (w := w) (ev1_rel E hu) (ev1_rel E hv) h1
      exact .same W (by simp [execOp, ho, h2]) h3
    · cases e
  · rename_i t y z ho
    split at e
    · rename_i u v hu hv
      obtain ⟨v, w', β', h1, h2, h3⟩ := opMakeSlice_rel W hF (ev1_rel E hu) (ev1_rel E hv) e
      exact ⟨v, w', β', .inl (by simp [execOp, ho, h1]), h2, h3⟩
    · cases e
  · rename_i y i ho
    split at e
    · rename_i vs hu
      obtain ⟨h1, rfl⟩ := kp e
      have hr := ev1_rel E hu
      generalize hg : a.eval y = u at hr
      cases hr with
      | tuple hs h =>
        rename_i cs'
        have hi : i < vs.size := by
          rcases Nat.lt_or_ge i vs.size with h' | h'
          · exact h'
          · rw [Array.getElem?_eq_none h'] at h1; cases h1
        have hi' : i < cs'.size := hs ▸ hi
        exact .same W (by simp [execOp, ho, hg, Instr.extract, hi']) (h i x cs'[i] h1 (Array.getElem?_eq_getElem hi'))
    · cases e
  · rename_i f first captured ho
    split at e
    · rename_i hfirst
      split at e
      · rename_i us hus
        obtain ⟨rfl, rfl⟩ := Prod.mk.inj (Option.some.inj e)
        have hr := evs_rel E hus
        have h0 : first = #[] := by simpa using hfirst
        subst h0
        obtain ⟨hl, hg⟩ := LRel.get hr
        refine .same W (v := .func (.func f) #[] (captured.map a.eval)) (by simp [execOp, ho, Instr.makeFunc]) (.func (by simpa using hl) fun i x x' h1 h2 => hg i x x' (by simpa using h1) (by simpa using h2))
      · cases e
    · cases e
  · rename_i t ho
    obtain ⟨rfl, rfl⟩ := Prod.mk.inj (Option.some.inj e)
    obtain ⟨v, w', β', h1, h2, h3⟩ := opMakeMap_rel (t := t) W hF
    exact ⟨v, w', β', .inl (by simp [execOp, ho, h1]), h2, h3⟩
  · rename_i t y k two ho
    split at e
    · rename_i u v hu hv
      obtain ⟨h1, rfl⟩ := kp e
      obtain ⟨r, h2, h3⟩ := opLookup_rel W (ev1_rel E hu) (ev1_rel E hv) h1
      exact .same W (by simp [execOp, ho, h2]) h3
    · cases e
  · rename_i t y k z ho
    split at e
    · rename_i u v d hu hv hd
      split at e
      · rename_i m1 hm1
        obtain ⟨rfl, rfl⟩ := Prod.mk.inj (Option.some.inj e)
        obtain ⟨w', h1, h2⟩ := opMapUpdate_rel W (ev1_rel E hu) (ev1_rel E hv) (ev1_rel E hd) hm1
        exact ⟨undef, w', β, .inr ⟨by simp [execOp, ho, h1], rfl⟩, .tuple rfl (fun i x x' h => by simp at h), h2⟩
      · cases e
    · cases e
  · rename_i args ts ho
    exact (hcl _ ho).elim
  · cases e
end Go.AM
