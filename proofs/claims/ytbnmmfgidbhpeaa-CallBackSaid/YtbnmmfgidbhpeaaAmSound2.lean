/- What the abstract machine does in one operation, the machine does: numbers, texts, structs. -/
import Derived.Test.YtbnmmfgidbhpeaaAmSound1
set_option linter.unusedSimpArgs false
set_option linter.unusedVariables false
set_option linter.unusedSimpArgs false
set_option linter.unusedVariables false
namespace Go.AM
open Go
variable {P : Program} {β : Ren} {m : Mem} {w : World}

theorem zero_rel {z : Value} (h : zeroOk z = true) : VRel β z z ∧ okVal z = true := by
  simp only [zeroOk, Bool.and_eq_true] at h
  exact ⟨const_rel h.1, h.2⟩

theorem places_run : ∀ {fs : List Field} {ps : List (Nat × Nat)}, places P fs = some ps →
    (List.mapM (fun f => Prod.mk f.offset <$> sizeOf f.type) fs : Sem (List (Nat × Nat))).run P w = .ok ps w
  | [], ps, e => by obtain rfl := Option.some.inj e; rfl
  | f :: r, ps, e => by
    simp only [places] at e
    split at e
    · cases e
    · rename_i s hs
      split at e
      · cases e
      · rename_i l hl
        obtain rfl := Option.some.inj e
        simp [run_tsize hs, places_run hl]

theorem opBuild_rel {t : TypeId} {parts parts' : List (Nat × Value)} {x : Value} (hp : PRel β parts parts') (e : opBuild P t parts = some x) :
    ∃ v, (Instr.build t parts'.toArray).run P w = .ok v w ∧ VRel β x v := by
  unfold opBuild at e
  split at e
  · cases e
  · rename_i z hz
    split at e
    · rename_i hc
      obtain ⟨hr, hk⟩ := zero_rel (β := β) hc
      have hA := hr.cells hk
      split at e
      · rename_i fields hu
        split at e
        · cases e
        · rename_i ps hps
          split at e
          · cases e
          · rename_i cells hf
            obtain rfl := Option.some.inj e
            obtain ⟨r', hr', ha⟩ := fill_rel _ hp hA hf
            refine ⟨.agg r', ?_, ha.agg⟩
            have hm : (Array.mapM (fun f => Prod.mk f.offset <$> sizeOf f.type) fields : Sem (Array (Nat × Nat))).run P w = .ok ps.toArray w := by
              rw [Array.mapM_eq_mapM_toList]
              simp [places_run hps]
            simp [Instr.build, run_tzero hz, run_underlying hu, hm, hr']
      · rename_i n elem hu
        split at e
        · cases e
        · rename_i s hs
          split at e
          · cases e
          · rename_i cells hf
            obtain rfl := Option.some.inj e
            obtain ⟨r', hr', ha⟩ := fill_rel _ hp hA hf
            exact ⟨.agg r', by simp [Instr.build, run_tzero hz, run_underlying hu, run_tsize hs, hr'], ha.agg⟩
      · cases e
    · cases e

theorem intBin_run {op : BinOp} {t : TypeId} {k : IntKind} {a b : Int} {x : Value} (hs : op ≠ .shl) (hs' : op ≠ .shr) (e : intBin op k a b = some x) :
    (binOp op t (.int k a) (.int k b)).run P w = .ok x w ∧ VRel β x x := by
  cases op <;> simp only [intBin] at e <;> first
    | (obtain rfl := Option.some.inj e
       refine ⟨?_, by constructor⟩
       simp only [binOp, ne_eq, not_true_eq_false, if_false]
       rfl)
    | (split at e
       · cases e
       · rename_i h
         obtain rfl := Option.some.inj e
         refine ⟨?_, by constructor⟩
         simp [binOp, Op.intDiv, h])
    | exact absurd rfl hs
    | exact absurd rfl hs'
    | cases e

theorem strBin_run {op : BinOp} {t : TypeId} {a b : ByteArray} {x : Value} (e : strBin op a b = some x) :
    (binOp op t (.string a) (.string b)).run P w = .ok x w ∧ VRel β x x := by
  cases op <;> simp only [strBin] at e <;> first
    | (obtain rfl := Option.some.inj e; exact ⟨by simp [binOp, Op.stringOp], by constructor⟩)
    | (split at e
       · rename_i h
         obtain rfl := Option.some.inj e
         refine ⟨?_, by constructor⟩
         have h' : ¬ ((a.size + b.size : Nat) : Int) > IntKind.i64.max := by simp; omega
         simp only [binOp, Op.stringOp]
         rw [if_neg h']
         rfl
       · cases e)
    | cases e

theorem eqCell_run {t : TypeId} {x y u v : Value} {r : Bool} (hx : VRel β x u) (hy : VRel β y v) (e : eqCell P t x y = some r) (d : Nat) :
    (Op.equalIn (d + 1) t u v).run P w = .ok r w := by
  unfold eqCell at e
  split at e <;> rename_i hu
  · cases hx; cases hy; obtain rfl := Option.some.inj e; simp [Op.equalIn, run_underlying hu]
  · split at e
    · rename_i hk
      subst hk
      cases hx; cases hy; obtain rfl := Option.some.inj e; simp [Op.equalIn, run_underlying hu]
    · cases e
  · cases hx; cases hy; obtain rfl := Option.some.inj e; simp [Op.equalIn, run_underlying hu]
  · cases hx; cases hy <;> (obtain rfl := Option.some.inj e; simp [Op.equalIn, run_underlying hu])
  · cases hx; cases hy; obtain rfl := Option.some.inj e; simp [Op.equalIn, run_underlying hu]
  · cases hx; cases hy <;> (obtain rfl := Option.some.inj e; simp [Op.equalIn, run_underlying hu])
  · cases hy; cases hx <;> (obtain rfl := Option.some.inj e; simp [Op.equalIn, run_underlying hu])
  · cases hx; cases hy <;> (obtain rfl := Option.some.inj e; simp [Op.equalIn, run_underlying hu])
  · cases hx; cases hy; obtain rfl := Option.some.inj e; simp [Op.equalIn, run_underlying hu]
  · cases hx; cases hy; obtain rfl := Option.some.inj e; simp [Op.equalIn, run_underlying hu]
  · cases hx; cases hy; obtain rfl := Option.some.inj e; simp [Op.equalIn, run_underlying hu]
  · cases hx; cases hy; obtain rfl := Option.some.inj e; simp [Op.equalIn, run_underlying hu]
  · cases e

theorem eqFields_run {eq : TypeId → Value → Value → Option Bool} {d : Nat}
    (hEq : ∀ (t : TypeId) (x y u v : Value) (r : Bool), VRel β x u → VRel β y v → eq t x y = some r → (Op.equalIn d t u v).run P w = .ok r w) :
    ∀ {fs : List Field} {xs ys us vs : Array Value} {r : Bool}, ARel β xs us → ARel β ys vs → eqFields P eq fs xs ys = some r →
    (forIn fs ((none, ()) : Option Bool × Unit) (fun f _ => (if f.name ≠ "_" then do
        let a ← part f.type us f.offset
        let b ← part f.type vs f.offset
        let c ← Op.equalIn d f.type a b
        if (!c) = true then pure (ForInStep.done (some false, ())) else pure (ForInStep.yield (none, ()))
      else pure (ForInStep.yield (none, ())) : Sem (ForInStep (Option Bool × Unit)))) : Sem (Option Bool × Unit)).run P w = .ok (if r = true then (none, ()) else (some false, ())) w
  | [], xs, ys, us, vs, r, _, _, e => by obtain rfl := Option.some.inj e; rfl
  | f :: fs, xs, ys, us, vs, r, hx, hy, e => by
    simp only [eqFields] at e
    rw [List.forIn_cons]
    split at e
    · rename_i hn
      simp only [hn, ne_eq, not_true_eq_false, if_false, Sem.run_bind, Sem.run_pure, Result.andThen_ok]
      exact eqFields_run hEq hx hy e
    · rename_i hn
      split at e
      · rename_i x y h1 h2
        obtain ⟨u, hu, ru⟩ := part_rel (w := w) hx h1
        obtain ⟨v, hv, rv⟩ := part_rel (w := w) hy h2
        split at e
        · rename_i h3
          obtain rfl := Option.some.inj e
          have h4 := hEq _ _ _ _ _ _ ru rv h3
          simp [hn, hu, hv, h4]
        · rename_i h3
          have h4 := hEq _ _ _ _ _ _ ru rv h3
          simp only [hn, ne_eq, not_false_eq_true, if_true, Sem.run_bind, hu, hv, h4, Result.andThen_ok, Bool.not_true, Bool.false_eq_true, if_false, Sem.run_pure]
          exact eqFields_run hEq hx hy e
        · cases e
      · cases e

theorem eqIn_run : ∀ (d D : Nat) {t : TypeId} {x y u v : Value} {r : Bool}, d ≤ D → VRel β x u → VRel β y v → eqIn P d t x y = some r → (Op.equalIn D t u v).run P w = .ok r w
  | 0, _, _, _, _, _, _, _, _, _, _, e => by cases e
  | d + 1, 0, _, _, _, _, _, _, hd, _, _, _ => by omega
  | d + 1, D + 1, t, x, y, u, v, r, hd, hx, hy, e => by
    simp only [eqIn] at e
    split at e
    · rename_i fields xs ys hu
      split at e
      · cases e
      · rename_i hs
        obtain ⟨us, rfl, rx⟩ := ARel.of_agg hx
        obtain ⟨vs, rfl, ry⟩ := ARel.of_agg hy
        have h := eqFields_run (P := P) (w := w) (d := D) (fun t x y u v r h1 h2 h3 => eqIn_run d D (by omega) h1 h2 h3) rx ry e
        simp only [Op.equalIn, Sem.run_bind, run_underlying hu, Result.andThen_ok]
        rw [← Array.forIn_toList]
        have hp : (program).run P w = .ok P w := rfl
        rw [hp]
        simp only [Result.andThen_ok]
        rw [if_neg hs]
        simp only [Sem.run_bind, h, Result.andThen_ok]
        cases r <;> rfl
    · cases e
    · exact eqCell_run hx hy e D

theorem eqCell_shape {t : TypeId} {x y u v : Value} {r : Bool} (hx : VRel β x u) (hy : VRel β y v) (e : eqCell P t x y = some r)
    (h1 : ∀ k a k' b, x = .int k a → y = .int k' b → False) (h2 : ∀ a b, x = .string a → y = .string b → False) (X Y : Operand) :
    (eqGuard .eql t X Y u v = pure () ∧ eqGuard .neq t X Y u v = pure ()) ∧ binOp .eql t u v = (do pure (.bool (← Op.equal t u v))) ∧ binOp .neq t u v = (do pure (.bool (!(← Op.equal t u v)))) := by
  unfold eqCell at e
  split at e <;> rename_i hu
  · cases hx; cases hy; exact ⟨⟨rfl, rfl⟩, rfl, rfl⟩
  · exact (h1 _ _ _ _ rfl rfl).elim
  · exact (h2 _ _ rfl rfl).elim
  · cases hx; cases hy <;> exact ⟨⟨rfl, rfl⟩, rfl, rfl⟩
  · cases hx; cases hy; exact ⟨⟨rfl, rfl⟩, rfl, rfl⟩
  · cases hx; cases hy <;> exact ⟨⟨rfl, rfl⟩, rfl, rfl⟩
  · cases hy; cases hx <;> exact ⟨⟨rfl, rfl⟩, rfl, rfl⟩
  · cases hx; cases hy <;> exact ⟨⟨rfl, rfl⟩, rfl, rfl⟩
  · cases hx; cases hy; exact ⟨⟨rfl, rfl⟩, rfl, rfl⟩
  · cases hx; cases hy; exact ⟨⟨rfl, rfl⟩, rfl, rfl⟩
  · cases hx; cases hy; exact ⟨⟨rfl, rfl⟩, rfl, rfl⟩
  · cases hx; cases hy; exact ⟨⟨rfl, rfl⟩, rfl, rfl⟩
  · cases e

theorem binV_rel {op : BinOp} {t : TypeId} {X Y : Operand} {a b u v x : Value} (ha : VRel β a u) (hb : VRel β b v) (e : binV P op t a b = some x) :
    ∃ z, (do eqGuard op t X Y u v; binOp op t u v : Sem Value).run P w = .ok z w ∧ VRel β x z := by
  unfold binV at e
  split at e
  · split at e
    · cases e
    · rename_i h
      cases ha; cases hb
      obtain rfl := Option.some.inj e
      exact ⟨_, by simp [eqGuard, binOp, Op.shift, h]; rfl, by constructor⟩
  · split at e
    · cases e
    · rename_i h
      cases ha; cases hb
      obtain rfl := Option.some.inj e
      exact ⟨_, by simp [eqGuard, binOp, Op.shift, h]; rfl, by constructor⟩
  · rename_i h1 h2
    split at e
    · rename_i h
      subst h
      cases ha; cases hb
      obtain ⟨h3, h4⟩ := intBin_run (β := β) (P := P) (w := w) (t := t) (by rintro rfl; exact h1 rfl) (by rintro rfl; exact h2 rfl) e
      exact ⟨x, by simp only [Sem.run_bind, eqGuard_at_int, Sem.run_pure, Result.andThen_ok]; exact h3, h4⟩
    · cases e
  · cases ha; cases hb
    obtain ⟨h3, h4⟩ := strBin_run (β := β) (P := P) (w := w) (t := t) e
    exact ⟨x, by simp only [Sem.run_bind, eqGuard_at_string, Sem.run_pure, Result.andThen_ok]; exact h3, h4⟩
  · split at e
    · cases e
    · rename_i hg
      split at e
      · rename_i r hr
        obtain rfl := Option.some.inj e
        obtain ⟨us, rfl, ra⟩ := ARel.of_agg ha
        obtain ⟨vs, rfl, rb⟩ := ARel.of_agg hb
        have h : (Op.equal t (.agg us) (.agg vs)).run P w = .ok r w := eqIn_run 40 Op.maxDepth (by decide) ha hb hr
        refine ⟨.bool r, ?_, .bool r⟩
        have hp : (program).run P w = .ok P w := rfl
        simp only [eqGuard, binOp, Sem.run_bind, h, Result.andThen_ok, Sem.run_pure]
        simp [hg, h]
      · cases e
  · split at e
    · cases e
    · rename_i hg
      split at e
      · rename_i r hr
        obtain rfl := Option.some.inj e
        obtain ⟨us, rfl, ra⟩ := ARel.of_agg ha
        obtain ⟨vs, rfl, rb⟩ := ARel.of_agg hb
        have h : (Op.equal t (.agg us) (.agg vs)).run P w = .ok r w := eqIn_run 40 Op.maxDepth (by decide) ha hb hr
        refine ⟨.bool (!r), ?_, .bool _⟩
        simp only [eqGuard, binOp, Sem.run_bind, h, Result.andThen_ok, Sem.run_pure]
        simp [hg, h]
      · cases e
  · rename_i h1 h2 h3
    split at e
    · rename_i r hr
      obtain rfl := Option.some.inj e
      have h : (Op.equal t u v).run P w = .ok r w := eqCell_run ha hb hr 9999
      obtain ⟨⟨h4, _⟩, h5, _⟩ := eqCell_shape ha hb hr h1 h2 X Y
      exact ⟨.bool r, by rw [h4, h5]; simp [h], .bool r⟩
    · cases e
  · rename_i h1 h2 h3
    split at e
    · rename_i r hr
      obtain rfl := Option.some.inj e
      have h : (Op.equal t u v).run P w = .ok r w := eqCell_run ha hb hr 9999
      obtain ⟨⟨_, h4⟩, _, h5⟩ := eqCell_shape ha hb hr h1 h2 X Y
      exact ⟨.bool (!r), by rw [h4, h5]; simp [h], .bool _⟩
    · cases e
  · cases e

theorem unV_rel {op : UnOp} {a u x : Value} (ha : VRel β a u) (e : unV op a = some x) : ∃ z, (Op.unary op u).run P w = .ok z w ∧ VRel β x z := by
  unfold unV at e
  split at e
  · cases ha; obtain rfl := Option.some.inj e; exact ⟨_, rfl, by constructor⟩
  · cases ha; obtain rfl := Option.some.inj e; exact ⟨_, rfl, by constructor⟩
  · cases ha; obtain rfl := Option.some.inj e; exact ⟨_, rfl, by constructor⟩
  · cases e
end Go.AM
