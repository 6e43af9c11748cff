/- Letters out of any bytes: what is taken has just these bytes. -/
import Derived.Test.YtejgoooanapjbaaAmC17x
set_option linter.unusedSimpArgs false
set_option linter.unusedVariables false
set_option maxRecDepth 100000
set_option maxHeartbeats 4000000
namespace Go.Proofs.Ytejgoooanapjbaa
open Go Go.AM Go.AM.Crc Go.AM.Wire
/-- What a reader does, if it meets no error. -/
def Tk (all : List Int) (s s' : Nat × Int) (out : List Int) : Prop := s'.1 ≤ all.length ∧ (s'.2 = 0 → s.2 = 0 ∧ s'.1 = s.1 + out.length ∧ (all.drop s.1).take out.length = out)
theorem takes_tk {all : List Int} {s s' : Nat × Int} {out : List Int} {b : Bool} (h : Takes all s s' out b) : Tk all s s' out := ⟨h.1, h.2.2⟩
theorem Tk.two {all : List Int} {s s1 s2 : Nat × Int} {x y : List Int} (g1 : Tk all s s1 x) (g2 : Tk all s1 s2 y) : Tk all s s2 (x ++ y) := by
  refine ⟨g2.1, fun h => ?_⟩
  obtain ⟨a1, a2, a3⟩ := g2.2 h
  obtain ⟨b1, b2, b3⟩ := g1.2 a1
  refine ⟨b1, by rw [List.length_append]; omega, ?_⟩
  rw [List.length_append]
  rw [b2] at a3
  exact take_two rfl rfl b3 a3
theorem Tk.bad {all : List Int} {s s' : Nat × Int} {out : List Int} (h : s'.1 ≤ all.length) (e : s'.2 ≠ 0) : Tk all s s' out := ⟨h, fun q => (e q).elim⟩
variable {all : List Int} {s : Nat × Int}
theorem tk_word (hb : Bytes all) (hs : s.1 ≤ all.length) : Tk all s (wordS all s).2 (wordB (wordS all s).1) := takes_tk (word_good hb hs)
theorem tk_within {most : Int} (hb : Bytes all) (hs : s.1 ≤ all.length) : Tk all s (withinS all most s).2 (wordB (withinS all most s).1) := takes_tk (within_good hb hs).1
theorem tk_long (hb : Bytes all) (hs : s.1 ≤ all.length) : Tk all s (longS all s).2 (longB (longS all s).1) := takes_tk (long_good hb hs)
theorem tk_text {most : Int} (hb : Bytes all) (hs : s.1 ≤ all.length) : Tk all s (textS all most s).2 (textB (textS all most s).1) := takes_tk (text_good hb hs).1
theorem tk_bal (hb : Bytes all) (hs : s.1 ≤ all.length) : Tk all s (balS all s).2 (balB (balS all s).1.1 (balS all s).1.2) := by
  have a := tk_long hb hs
  exact a.two (tk_within hb a.1)
theorem tk_call (hb : Bytes all) (hs : s.1 ≤ all.length) : Tk all s (callS all s).2 (callB (callS all s).1.t (callS all s).1.n (callS all s).1.p (callS all s).1.args) := by
  have a := tk_word hb hs
  have b := tk_word hb a.1
  have c := tk_word hb b.1
  have d := tk_text (most := 4000) hb c.1
  simp only [callS]
  split
  · rename_i h
    exact Tk.bad d.1 h
  · exact a.two (b.two (c.two d))
theorem tk_ans (hb : Bytes all) (hs : s.1 ≤ all.length) : Tk all s (ansS all s).2 (ansB (ansS all s).1.e (ansS all s).1.r (ansS all s).1.args) := by
  have a := tk_word hb hs
  have b := tk_word hb a.1
  have d := tk_text (most := 4000) hb b.1
  simp only [ansS]
  split
  · rename_i h
    exact Tk.bad d.1 h
  · exact a.two (b.two d)
theorem tk_words (hb : Bytes all) (hs : s.1 ≤ all.length) (n : Nat) : Tk all s (wordsS all n s).2 ((wordsS all n s).1.flatMap wordB) := by
  induction n with
  | zero => exact ⟨hs, fun h => ⟨h, rfl, rfl⟩⟩
  | succ n ih =>
    have := ih.two (tk_word hb ih.1)
    simp only [wordsS]
    rw [List.flatMap_append]
    simpa using this
theorem tk_ent (hb : Bytes all) (hs : s.1 ≤ all.length) : Tk all s (entS all s).2 (entB (entS all s).1) := by
  have k := tk_within (most := 2) hb hs
  have kr := within_most (most := 2) hb hs (by decide)
  simp only [entS]
  split
  · rename_i h
    have c := tk_call hb k.1
    split
    · rename_i e
      exact Tk.bad c.1 e
    · rw [ent1 rfl]
      rw [h] at k
      exact k.two c
  split
  · rename_i h0 h
    have n := tk_within (most := 16) hb k.1
    have nr := within_most (most := 16) hb k.1 (by decide)
    have l := tk_words hb n.1 (withinS all 16 (withinS all 2 s).2).1.toNat
    have ll := wordsS_len all (withinS all 16 (withinS all 2 s).2).1.toNat (withinS all 16 (withinS all 2 s).2).2
    generalize wordsS all (withinS all 16 (withinS all 2 s).2).1.toNat (withinS all 16 (withinS all 2 s).2).2 = X at l ll ⊢
    have key : Tk all s X.2 (entB ⟨2, 0, 0, 0, [], X.1⟩) := by
      rw [ent2 rfl]
      rw [h] at k
      have e : ((X.1.length : Nat) : Int) = (withinS all 16 (withinS all 2 s).2).1 := by omega
      show Tk all s X.2 (wordB 2 ++ (wordB (X.1.length : Int) ++ X.1.flatMap wordB))
      rw [e]
      exact k.two (n.two l)
    simp only [entE]
    by_cases q : X.2.2 = 0 ∧ echk ⟨2, 0, 0, 0, [], X.1⟩ ≠ 0
    · simp only [if_pos q]
      have f : (failS (echk ⟨2, 0, 0, 0, [], X.1⟩) X.2).2 ≠ 0 := (fail_ne q.2).1
      rw [if_pos f]
      exact Tk.bad (failS_le key.1) f
    · simp only [if_neg q]
      by_cases g : X.2.2 ≠ 0
      · rw [if_pos g]
        exact Tk.bad key.1 g
      · rw [if_neg g]
        exact key
  · rename_i h1 h2
    have h0 : (withinS all 2 s).1 = 0 := by omega
    rw [h0] at k
    rw [ent0 rfl]
    exact k
theorem tk_rest {o : Let} (hb : Bytes all) (hs : s.1 ≤ all.length) (hk : 0 ≤ o.kd ∧ o.kd < 8) : Tk all s (restS all o s).2 (bodyB (restS all o s).1) := by
  have p := tk_long hb hs
  have b := tk_bal hb p.1
  unfold restS
  simp only
  split
  · rename_i h
    show Tk all s _ (bodyB _)
    rw [bodyB, if_pos h]
    exact p.two b
  split
  · rename_i h0 h
    have q := tk_within (most := 1) hb b.1
    have qr := within_most (most := 1) hb b.1 (by decide)
    split
    · rename_i h1
      have w := tk_bal hb q.1
      have e := tk_ent hb w.1
      rw [bodyB, if_neg h0, if_pos h, if_pos rfl]
      rw [h1] at q
      exact p.two (b.two (q.two (w.two e)))
    · rename_i h1
      have h2 : (withinS all 1 (balS all (longS all s).2).2).1 = 0 := by omega
      rw [bodyB, if_neg h0, if_pos h, if_neg (by exact fun h => Bool.noConfusion h)]
      rw [h2] at q
      exact p.two (b.two q)
  split
  · rename_i h0 h1 h
    have e := tk_ent hb b.1
    rw [bodyB, if_neg h0, if_neg h1, if_pos h]
    exact p.two (b.two e)
  split
  · rename_i h0 h1 h2 h
    have e := tk_ent hb p.1
    rw [bodyB, if_neg h0, if_neg h1, if_neg h2, if_pos h]
    exact p.two e
  split
  · rename_i h0 h1 h2 h4 h
    rw [bodyB, if_neg h0, if_neg h1, if_neg h2, if_neg h4, if_pos h]
    exact p
  split
  · rename_i h0 h1 h2 h4 h5 h
    rw [bodyB, if_neg h0, if_neg h1, if_neg h2, if_neg h4, if_neg h5, if_pos h]
    exact tk_call hb hs
  · rename_i h0 h1 h2 h4 h5 h6
    rw [bodyB, if_neg h0, if_neg h1, if_neg h2, if_neg h4, if_neg h5, if_neg h6]
    have t := tk_word hb hs
    have n := tk_word hb t.1
    have v := tk_long hb n.1
    have k := tk_within (most := 16) hb v.1
    have kr := within_most (most := 16) hb v.1 (by decide)
    have l := tk_words hb k.1 (withinS all 16 (longS all (wordS all (wordS all s).2).2).2).1.toNat
    have ll := wordsS_len all (withinS all 16 (longS all (wordS all (wordS all s).2).2).2).1.toNat (withinS all 16 (longS all (wordS all (wordS all s).2).2).2).2
    generalize wordsS all (withinS all 16 (longS all (wordS all (wordS all s).2).2).2).1.toNat (withinS all 16 (longS all (wordS all (wordS all s).2).2).2).2 = X at l ll ⊢
    have a := tk_ans hb l.1
    have e : ((X.1.length : Nat) : Int) = (withinS all 16 (longS all (wordS all (wordS all s).2).2).2).1 := by omega
    rw [← e] at k
    have := t.two (n.two ((v.two (k.two l)).two a))
    exact this
theorem rest_only {o : Let} (ho : o = { zL with kd := o.kd, fr := o.fr, to := o.to }) (hk : 0 ≤ o.kd ∧ o.kd < 8) : only (restS all o s).1 = (restS all o s).1 := by
  rw [ho]
  unfold restS
  simp only
  split
  · rename_i h; rw [only, if_pos h]
  split
  · rename_i h0 h
    split
    · rw [only, if_neg h0, if_pos h, if_pos rfl]
    · rw [only, if_neg h0, if_pos h, if_neg (by exact fun h => Bool.noConfusion h)]
      rfl
  split
  · rename_i h0 h1 h; rw [only, if_neg h0, if_neg h1, if_pos h]
  split
  · rename_i h0 h1 h2 h; rw [only, if_neg h0, if_neg h1, if_neg h2, if_pos h]
  split
  · rename_i h0 h1 h2 h4 h; rw [only, if_neg h0, if_neg h1, if_neg h2, if_neg h4, if_pos h]
  split
  · rename_i h0 h1 h2 h4 h5 h; rw [only, if_neg h0, if_neg h1, if_neg h2, if_neg h4, if_neg h5, if_pos h]
  · rename_i h0 h1 h2 h4 h5 h6
    rw [only, if_neg h0, if_neg h1, if_neg h2, if_neg h4, if_neg h5, if_neg h6, if_pos (show o.kd = 7 by omega)]
/-- A letter that is taken has just these bytes. -/
theorem let_any (hb : Bytes all) : ((letS all).2 ≠ 0 → (letS all).1 = zL) ∧ ((letS all).2 = 0 → letB (letS all).1 = all ∧ lck (letS all).1 = 0 ∧ only (letS all).1 = (letS all).1 ∧ Ok (letS all).1 ∧ Ty (letS all).1) := by
  have k := tk_within (s := (0, 0)) (most := 7) hb (Nat.zero_le _)
  have kr := within_most (s := (0, 0)) (most := 7) hb (Nat.zero_le _) (by decide)
  have f := tk_within (most := 15) hb k.1
  have t := tk_within (most := 15) hb f.1
  obtain ⟨o, ho⟩ : ∃ o : Let, o = { zL with kd := (withinS all 7 (0, 0)).1, fr := (withinS all 15 (withinS all 7 (0, 0)).2).1, to := (withinS all 15 (withinS all 15 (withinS all 7 (0, 0)).2).2).1 } := ⟨_, rfl⟩
  have hk : 0 ≤ o.kd ∧ o.kd < 8 := by rw [ho]; show 0 ≤ (withinS all 7 (0, 0)).1 ∧ (withinS all 7 (0, 0)).1 < 8; omega
  have ho' : o = { zL with kd := o.kd, fr := o.fr, to := o.to } := by rw [ho]
  have r := tk_rest (o := o) hb t.1 hk
  have ro := rest_only (all := all) (s := (withinS all 15 (withinS all 15 (withinS all 7 (0, 0)).2).2).2) ho' hk
  have rk := restS_ok (all := all) (s := (withinS all 15 (withinS all 15 (withinS all 7 (0, 0)).2).2).2) hb t.1 ho' hk
  have rkd : (restS all o (withinS all 15 (withinS all 15 (withinS all 7 (0, 0)).2).2).2).1.kd = o.kd ∧ (restS all o (withinS all 15 (withinS all 15 (withinS all 7 (0, 0)).2).2).2).1.fr = o.fr ∧ (restS all o (withinS all 15 (withinS all 15 (withinS all 7 (0, 0)).2).2).2).1.to = o.to := by
    unfold restS
    simp only
    repeat' split
    all_goals exact ⟨rfl, rfl, rfl⟩
  have er : rawS all = restS all o (withinS all 15 (withinS all 15 (withinS all 7 (0, 0)).2).2).2 := by rw [ho]; rfl
  rw [← er] at r ro rk rkd
  have kfr : (withinS all 7 (0, 0)).1 = (rawS all).1.kd ∧ (withinS all 15 (withinS all 7 (0, 0)).2).1 = (rawS all).1.fr ∧ (withinS all 15 (withinS all 15 (withinS all 7 (0, 0)).2).2).1 = (rawS all).1.to := by
    rw [rkd.1, rkd.2.1, rkd.2.2, ho]
    exact ⟨rfl, rfl, rfl⟩
  rw [kfr.1] at k
  rw [kfr.2.1] at f
  rw [kfr.2.2] at t
  have T : Tk all (0, 0) (rawS all).2 (letB (rawS all).1) := k.two (f.two (t.two r))
  unfold letS
  simp only
  by_cases e : endS all.length (rawS all).2 = 0
  · rw [if_neg (by exact fun h => h e)]
    by_cases c : lck (rawS all).1 = 0
    · rw [if_neg (by exact fun h => h c)]
      refine ⟨fun h => (h rfl).elim, fun _ => ⟨?_, c, ro, rk.1, rk.2⟩⟩
      unfold endS at e
      split at e
      · simp at e
      · rename_i h
        obtain ⟨_, t2, t3⟩ := T.2 e
        have l1 := T.1
        have l2 : ¬ (rawS all).2.1 < all.length := fun q => h ⟨e, q⟩
        simp only [List.drop_zero, Nat.zero_add] at t2 t3
        rw [List.take_of_length_le (by omega)] at t3
        exact t3.symm
    · rw [if_pos c]
      exact ⟨fun _ => rfl, fun h => (c h).elim⟩
  · rw [if_pos e]
    exact ⟨fun _ => rfl, fun h => (e h).elim⟩
end Go.Proofs.Ytejgoooanapjbaa
