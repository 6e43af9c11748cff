/- Letters as bytes: what is put is taken; what is taken has the bytes. -/
import Derived.Test.YtejgoooanapjbaaAmC17u
import Derived.Test.YtejgoooanapjbaaAmC17s
import Derived.Test.YtejgoooanapjbaaAmArgs7
import Derived.Test.YtejgoooanapjbaaAmBun
set_option linter.unusedSimpArgs false
set_option linter.unusedVariables false
set_option maxRecDepth 100000
set_option maxHeartbeats 4000000
namespace Go.Proofs.Ytejgoooanapjbaa
open Go Go.AM Go.AM.Crc Go.AM.Wire
/-- What stands from a place on. -/
def At (all : List Int) (k : Nat) (r : List Int) : Prop := k ≤ all.length ∧ all.drop k = r
theorem At.all {all r : List Int} {k : Nat} (h : At all k r) : all = all.take k ++ r ∧ (all.take k).length = k := by
  refine ⟨by rw [← h.2, List.take_append_drop], ?_⟩
  have := h.1
  rw [List.length_take]
  omega
theorem At.step {all z r : List Int} {k n : Nat} (h : At all k (z ++ r)) (hn : n = k + z.length) : At all n r := by
  subst hn
  have e := congrArg List.length h.2
  rw [List.length_drop, List.length_append] at e
  have := h.1
  refine ⟨by omega, ?_⟩
  rw [← List.drop_drop, h.2, List.drop_left]
theorem at_word {all r : List Int} {k : Nat} {x : Int} (h : At all k (wordB x ++ r)) : wordS all (k, 0) = (x, (k + 2, 0)) := by
  obtain ⟨e, l⟩ := h.all
  have := wordS_mid (x := x) (all.take k) r
  rw [← e, List.length_append, l] at this
  exact this
theorem at_within {all r : List Int} {k : Nat} {x most : Int} (h : At all k (wordB x ++ r)) (hx : x ≤ most) : withinS all most (k, 0) = (x, (k + 2, 0)) := by
  obtain ⟨e, l⟩ := h.all
  have := withinS_mid (x := x) (most := most) (all.take k) r hx
  rw [← e, List.length_append, l] at this
  exact this
theorem at_long {all r : List Int} {k : Nat} {x : Int} (h : At all k (longB x ++ r)) : longS all (k, 0) = (x, (k + 4, 0)) := by
  obtain ⟨e, l⟩ := h.all
  have := longS_mid (x := x) (all.take k) r
  rw [← e, List.length_append, l] at this
  exact this
theorem at_call {all r : List Int} {k : Nat} {t n p : Int} {s : List Int} (h : At all k (callB t n p s ++ r)) (hs : s.length ≤ 4000) : callS all (k, 0) = (⟨t, n, p, s⟩, (k + (callB t n p s).length, 0)) := by
  obtain ⟨e, l⟩ := h.all
  have := callS_mid (t := t) (n := n) (p := p) (s := s) (all.take k) r hs
  rw [← e, List.length_append, l] at this
  exact this
theorem at_ans {all r : List Int} {k : Nat} {t n : Int} {s : List Int} (h : At all k (ansB t n s ++ r)) (hs : s.length ≤ 4000) : ansS all (k, 0) = (⟨t, n, s⟩, (k + (ansB t n s).length, 0)) := by
  obtain ⟨e, l⟩ := h.all
  have := ansS_mid (e := t) (r := n) (s := s) (all.take k) r hs
  rw [← e, List.length_append, l] at this
  exact this
theorem at_bal {all r : List Int} {k : Nat} {x n : Int} (h : At all k (balB x n ++ r)) (hn : n ≤ 15) : balS all (k, 0) = ((x, n), (k + 6, 0)) := by
  rw [balB, List.append_assoc] at h
  have e1 := at_long h
  have h2 := h.step (n := k + 4) rfl
  have e2 := at_within h2 hn
  simp only [balS, e1, e2]
theorem at_words {all r l : List Int} {k : Nat} (h : At all k (l.flatMap wordB ++ r)) : wordsS all l.length (k, 0) = (l, (k + l.length * 2, 0)) := by
  have : ∀ n, n ≤ l.length → wordsS all n (k, 0) = (l.take n, (k + n * 2, 0)) := by
    intro n
    induction n with
    | zero => intro _; rfl
    | succ n ih =>
      intro hn
      have e0 : l.flatMap wordB ++ r = (l.take n).flatMap wordB ++ (wordB l[n] ++ ((l.drop (n + 1)).flatMap wordB ++ r)) := by
        rw [← List.append_assoc (wordB _), ← List.append_assoc]
        congr 1
        rw [← List.flatMap_cons, ← List.drop_eq_getElem_cons, ← List.flatMap_append, List.take_append_drop]
      rw [e0] at h
      have h2 := h.step (n := k + n * 2) (by rw [words_len, List.length_take]; omega)
      have e1 := at_word h2
      simp only [wordsS, ih (by omega), e1]
      rw [List.take_succ_eq_append_getElem (by omega)]
      congr 2
      omega
  have e := this l.length (Nat.le_refl _)
  rw [List.take_length] at e
  exact e
theorem at_ent {all r : List Int} {k : Nat} {E : Ent} (f : Fit E) (h : At all k (entB E ++ r)) : entS all (k, 0) = (E, (k + (entB E).length, 0)) := by
  have k2 : E.kind ≤ 2 := by have := f.kd; omega
  have h1 : At all k (wordB E.kind ++ ((if E.kind = 1 then callB E.tr E.nu E.pc E.args else if E.kind = 2 then wordB E.mem.length ++ E.mem.flatMap wordB else []) ++ r)) := by
    rw [entB, List.append_assoc] at h; exact h
  have e1 := at_within h1 k2
  have h2 := h1.step (n := k + 2) rfl
  rcases f.kd with q | q | q
  · obtain ⟨a1, a2, a3, a4⟩ := f.c0 (by omega)
    have a5 := f.c1 (by omega)
    have : E = zE := by
      obtain ⟨a, b, c, d, e, g⟩ := E
      simp only at q a1 a2 a3 a4 a5
      subst q a1 a2 a3 a4 a5
      rfl
    rw [this] at e1 ⊢
    have e1 : withinS all 2 (k, 0) = (0, (k + 2, 0)) := e1
    simp only [entS, e1]
    rfl
  · rw [q] at e1
    rw [if_pos q] at h2
    have e2 := at_call h2 f.al
    have a5 := f.c1 (by omega)
    have hE : (⟨1, E.tr, E.nu, E.pc, E.args, []⟩ : Ent) = E := by
      obtain ⟨a, b, c, d, e, g⟩ := E
      simp only at q a5
      subst q a5
      rfl
    simp only [entS, e1, e2]
    rw [if_pos trivial, if_neg (by simp), hE, ent1 q, List.length_append, wordB_length]
    congr 2
    omega
  · rw [q] at e1
    rw [if_neg (by omega), if_pos q, List.append_assoc] at h2
    have e2 := at_within (most := 16) h2 (by have := f.ml; omega)
    have h3 := h2.step (n := k + 4) rfl
    have e3 := at_words h3
    obtain ⟨a1, a2, a3, a4⟩ := f.c0 (by omega)
    have hE : (⟨2, 0, 0, 0, [], E.mem⟩ : Ent) = E := by
      obtain ⟨a, b, c, d, e, g⟩ := E
      simp only at q a1 a2 a3 a4
      subst q a1 a2 a3 a4
      rfl
    have hm := f.mc q
    have hc : echk ⟨2, 0, 0, 0, [], E.mem⟩ = 0 := by
      show echeckOf 2 0 0 0 [] E.mem = 0
      rw [echeckOf, if_neg (by decide), if_neg (by exact fun h => h.elim (fun h => absurd h.2 (by simp [csameB])) (fun h => h.1 rfl)), if_neg (by decide), if_pos rfl]
      exact hm
    simp only [entS, e1, e2]
    rw [if_neg (by decide), if_pos trivial, Int.toNat_natCast, show k + 2 + 2 = k + 4 from rfl, e3]
    have eE : entE E.mem (k + 4 + E.mem.length * 2, 0) = (E, (k + 4 + E.mem.length * 2, 0)) := by
      have hc' : echk E = 0 := by rw [← hE]; exact hc
      simp [entE, hE, hc']
    simp only [eE]
    rw [ent2 q]
    simp only [List.length_append, wordB_length, words_len]
    congr 2
    omega
theorem At.nil {all r : List Int} {k : Nat} (h : At all k r) : At all k (r ++ []) := by rw [List.append_nil]; exact h
theorem at_rest {all : List Int} {L : Let} {k : Nat} (f : LFit L) (ok : Ok L) (h : At all k (bodyB L)) : restS all { zL with kd := L.kd, fr := L.fr, to := L.to } (k, 0) = (only L, (k + (bodyB L).length, 0)) := by
  have kk := f.kd
  have k8 : L.kd = 0 ∨ L.kd = 3 ∨ L.kd = 1 ∨ L.kd = 2 ∨ L.kd = 4 ∨ L.kd = 5 ∨ L.kd = 6 ∨ L.kd = 7 := by omega
  have h03 : ∀ p : (L.kd = 0 ∨ L.kd = 3), restS all { zL with kd := L.kd, fr := L.fr, to := L.to } (k, 0) = (only L, (k + (bodyB L).length, 0)) := by
    intro p
    rw [bodyB, if_pos p] at h
    have e1 := at_long h
    have e2 := at_bal (h.step (n := k + 4) rfl).nil (by have := (f.b (by omega)).2; omega)
    rw [bodyB, if_pos p, only, if_pos p]
    unfold restS
    rw [if_pos p, e1]
    simp only [e2]
    rfl
  rcases k8 with q | q | q | q | q | q | q | q
  · exact h03 (.inl q)
  · exact h03 (.inr q)
  · rw [bodyB, if_neg (by omega), if_pos q] at h
    have e1 := at_long h
    have h2 := h.step (n := k + 4) rfl
    have e2 := at_bal h2 (by have := (f.b (by omega)).2; omega)
    have h3 := h2.step (n := k + 4 + 6) rfl
    cases hs : L.sm with
    | true =>
      rw [if_pos hs] at h3
      have e3 := at_within (most := 1) h3 (by decide)
      have h4 := h3.step (n := k + 4 + 6 + 2) rfl
      have e4 := at_bal h4 (by have := (f.w q hs).2; omega)
      have h5 := (h4.step (n := k + 4 + 6 + 2 + 6) rfl).nil
      have e5 := at_ent (f.E (.inl ⟨q, hs⟩)) h5
      rw [bodyB, if_neg (by omega), if_pos q, if_pos hs, only, if_neg (by omega), if_pos q, if_pos hs]
      unfold restS
      rw [if_neg (show ¬ (L.kd = 0 ∨ L.kd = 3) by omega), if_pos q, e1]
      simp only [e2, e3, e4, e5]
      rw [if_pos trivial]
      simp only [List.length_append, longB_length, balB_length, wordB_length]
      congr 2
      omega
    | false =>
      rw [if_neg (by rw [hs]; decide)] at h3
      have e3 := at_within (most := 1) h3.nil (by decide)
      rw [bodyB, if_neg (by omega), if_pos q, if_neg (by rw [hs]; decide), only, if_neg (by omega), if_pos q, if_neg (by rw [hs]; decide)]
      unfold restS
      rw [if_neg (show ¬ (L.kd = 0 ∨ L.kd = 3) by omega), if_pos q, e1]
      simp only [e2, e3]
      rw [if_neg (by decide)]
      simp only [List.length_append, longB_length, balB_length, wordB_length]
      rfl
  · rw [bodyB, if_neg (by omega), if_neg (by omega), if_pos q] at h
    have e1 := at_long h
    have h2 := h.step (n := k + 4) rfl
    have e2 := at_bal h2 (by have := (f.b (by omega)).2; omega)
    have e3 := at_ent (f.E (.inr (.inl q))) (h2.step (n := k + 4 + 6) rfl).nil
    rw [bodyB, if_neg (by omega), if_neg (by omega), if_pos q, only, if_neg (by omega), if_neg (by omega), if_pos q]
    unfold restS
    rw [if_neg (show ¬ (L.kd = 0 ∨ L.kd = 3) by omega), if_neg (show ¬ L.kd = 1 by omega), if_pos q, e1]
    simp only [e2, e3, List.length_append, longB_length, balB_length]
    congr 2
    omega
  · rw [bodyB, if_neg (by omega), if_neg (by omega), if_neg (by omega), if_pos q] at h
    have e1 := at_long h
    have e3 := at_ent (f.E (.inr (.inr q))) (h.step (n := k + 4) rfl).nil
    rw [bodyB, if_neg (by omega), if_neg (by omega), if_neg (by omega), if_pos q, only, if_neg (by omega), if_neg (by omega), if_neg (by omega), if_pos q]
    unfold restS
    rw [if_neg (show ¬ (L.kd = 0 ∨ L.kd = 3) by omega), if_neg (show ¬ L.kd = 1 by omega), if_neg (show ¬ L.kd = 2 by omega), if_pos q, e1]
    simp only [e3, List.length_append, longB_length]
    congr 2
    omega
  · rw [bodyB, if_neg (by omega), if_neg (by omega), if_neg (by omega), if_neg (by omega), if_pos q] at h
    have e1 := at_long h.nil
    rw [bodyB, if_neg (by omega), if_neg (by omega), if_neg (by omega), if_neg (by omega), if_pos q, only, if_neg (by omega), if_neg (by omega), if_neg (by omega), if_neg (by omega), if_pos q]
    unfold restS
    rw [if_neg (show ¬ (L.kd = 0 ∨ L.kd = 3) by omega), if_neg (show ¬ L.kd = 1 by omega), if_neg (show ¬ L.kd = 2 by omega), if_neg (show ¬ L.kd = 4 by omega), if_pos q, e1]
    rfl
  · rw [bodyB, if_neg (by omega), if_neg (by omega), if_neg (by omega), if_neg (by omega), if_neg (by omega), if_pos q] at h
    have e1 := at_call h.nil ok.cs
    rw [bodyB, if_neg (by omega), if_neg (by omega), if_neg (by omega), if_neg (by omega), if_neg (by omega), if_pos q, only, if_neg (by omega), if_neg (by omega), if_neg (by omega), if_neg (by omega), if_neg (by omega), if_pos q]
    unfold restS
    rw [if_neg (show ¬ (L.kd = 0 ∨ L.kd = 3) by omega), if_neg (show ¬ L.kd = 1 by omega), if_neg (show ¬ L.kd = 2 by omega), if_neg (show ¬ L.kd = 4 by omega), if_neg (show ¬ L.kd = 5 by omega), if_pos q, e1]
  · rw [bodyB, if_neg (by omega), if_neg (by omega), if_neg (by omega), if_neg (by omega), if_neg (by omega), if_neg (by omega), viewB, List.append_assoc, List.append_assoc] at h
    have hm := memCk_fit (f.vm q)
    have e1 := at_word h
    have h2 := h.step (n := k + 2) rfl
    have e2 := at_word h2
    have h3 := h2.step (n := k + 2 + 2) rfl
    have e3 := at_long h3
    have h4 := h3.step (n := k + 2 + 2 + 4) rfl
    have e4 := at_within (most := 16) h4 (by omega)
    have h5 := h4.step (n := k + 2 + 2 + 4 + 2) rfl
    have e5 := at_words h5
    have h6 := (h5.step (n := k + 2 + 2 + 4 + 2 + L.vm.length * 2) (by rw [words_len])).nil
    have e6 := at_ans h6 ok.al
    rw [bodyB, if_neg (by omega), if_neg (by omega), if_neg (by omega), if_neg (by omega), if_neg (by omega), if_neg (by omega), only, if_neg (by omega), if_neg (by omega), if_neg (by omega), if_neg (by omega), if_neg (by omega), if_neg (by omega), if_pos q]
    unfold restS
    rw [if_neg (show ¬ (L.kd = 0 ∨ L.kd = 3) by omega), if_neg (show ¬ L.kd = 1 by omega), if_neg (show ¬ L.kd = 2 by omega), if_neg (show ¬ L.kd = 4 by omega), if_neg (show ¬ L.kd = 5 by omega), if_neg (show ¬ L.kd = 6 by omega), e1]
    simp only [e2, e3, e4, Int.toNat_natCast, e5, e6, viewB, List.length_append, longB_length, wordB_length, words_len]
    congr 2
    omega
theorem only_cases (L : Let) : (only L).fr = L.fr ∧ (only L).to = L.to := by
  unfold only
  simp only
  repeat' split
  all_goals exact ⟨rfl, rfl⟩
theorem only_only (L : Let) : only (only L) = only L := by
  have k := only_kd L
  obtain ⟨a, b⟩ := only_cases L
  by_cases h03 : L.kd = 0 ∨ L.kd = 3
  · rw [only.eq_def (only L), if_pos (by rw [k]; exact h03)]
    simp only [only, if_pos h03]
  by_cases h1 : L.kd = 1
  · cases hs : L.sm with
    | true =>
      have e : only L = { zL with kd := L.kd, fr := L.fr, to := L.to, pl := L.pl, br := L.br, bn := L.bn, sm := true, wr := L.wr, wn := L.wn, E := L.E } := by rw [only, if_neg h03, if_pos h1, if_pos hs]
      rw [e, only, if_neg h03, if_pos h1, if_pos rfl]
    | false =>
      have e : only L = { zL with kd := L.kd, fr := L.fr, to := L.to, pl := L.pl, br := L.br, bn := L.bn } := by rw [only, if_neg h03, if_pos h1, if_neg (by rw [hs]; decide)]
      rw [e, only, if_neg h03, if_pos h1, if_neg (by exact fun h => Bool.noConfusion h)]
  by_cases h2 : L.kd = 2
  · have e : only L = { zL with kd := L.kd, fr := L.fr, to := L.to, pl := L.pl, br := L.br, bn := L.bn, E := L.E } := by rw [only, if_neg h03, if_neg h1, if_pos h2]
    rw [e, only, if_neg h03, if_neg h1, if_pos h2]
  by_cases h4 : L.kd = 4
  · have e : only L = { zL with kd := L.kd, fr := L.fr, to := L.to, pl := L.pl, E := L.E } := by rw [only, if_neg h03, if_neg h1, if_neg h2, if_pos h4]
    rw [e, only, if_neg h03, if_neg h1, if_neg h2, if_pos h4]
  by_cases h5 : L.kd = 5
  · have e : only L = { zL with kd := L.kd, fr := L.fr, to := L.to, pl := L.pl } := by rw [only, if_neg h03, if_neg h1, if_neg h2, if_neg h4, if_pos h5]
    rw [e, only, if_neg h03, if_neg h1, if_neg h2, if_neg h4, if_pos h5]
  by_cases h6 : L.kd = 6
  · have e : only L = { zL with kd := L.kd, fr := L.fr, to := L.to, C := L.C } := by rw [only, if_neg h03, if_neg h1, if_neg h2, if_neg h4, if_neg h5, if_pos h6]
    rw [e, only, if_neg h03, if_neg h1, if_neg h2, if_neg h4, if_neg h5, if_pos h6]
  by_cases h7 : L.kd = 7
  · have e : only L = { zL with kd := L.kd, fr := L.fr, to := L.to, it := L.it, nn := L.nn, vn := L.vn, vm := L.vm, A := L.A } := by rw [only, if_neg h03, if_neg h1, if_neg h2, if_neg h4, if_neg h5, if_neg h6, if_pos h7]
    rw [e, only, if_neg h03, if_neg h1, if_neg h2, if_neg h4, if_neg h5, if_neg h6, if_pos h7]
  · have e : only L = { zL with kd := L.kd, fr := L.fr, to := L.to } := by rw [only, if_neg h03, if_neg h1, if_neg h2, if_neg h4, if_neg h5, if_neg h6, if_neg h7]
    rw [e, only, if_neg h03, if_neg h1, if_neg h2, if_neg h4, if_neg h5, if_neg h6, if_neg h7]
theorem lck_only (L : Let) : lck (only L) = lck L := by rw [lck, lck, only_kd, only_only]
theorem let_mid {L : Let} (f : LFit L) (ok : Ok L) (hc : lck L = 0) : letS (letB L) = (only L, 0) := by
  have h : At (letB L) 0 (letB L) := ⟨Nat.zero_le _, rfl⟩
  have h0 : At (letB L) 0 (wordB L.kd ++ (wordB L.fr ++ (wordB L.to ++ bodyB L))) := h
  have e1 := at_within (most := 7) h0 (by have := f.kd; omega)
  have h1 := h0.step (n := 2) rfl
  have e2 := at_within (most := 15) h1 (by have := f.fr; omega)
  have h2 := h1.step (n := 4) rfl
  have e3 := at_within (most := 15) h2 (by have := f.to; omega)
  have h3 := h2.step (n := 6) rfl
  have e4 := at_rest f ok h3
  have er : rawS (letB L) = (only L, (6 + (bodyB L).length, 0)) := by
    unfold rawS
    simp only [e1]
    rw [show (0 + 2 : Nat) = 2 from rfl, e2]
    simp only
    rw [show (2 + 2 : Nat) = 4 from rfl, e3]
    exact e4
  have el : (letB L).length = 6 + (bodyB L).length := by simp only [letB, List.length_append, wordB_length]; omega
  unfold letS
  simp only [er]
  have ee : endS (letB L).length (6 + (bodyB L).length, 0) = 0 := by
    rw [endS, if_neg]
    rw [el]
    exact fun h => Nat.lt_irrefl _ h.2
  rw [if_neg (by rw [ee]; simp), if_neg (by rw [lck_only, hc]; simp)]
theorem sameC_iff {c d : Cal} (hc : Bytes c.s) (hd : Bytes d.s) : sameC c d = true ↔ c = d := by
  obtain ⟨a1, a2, a3, a4⟩ := c
  obtain ⟨b1, b2, b3, b4⟩ := d
  simp only [sameC, Bool.and_eq_true, decide_eq_true_eq, Cal.mk.injEq]
  constructor
  · rintro ⟨⟨h1, h2⟩, h3, h4⟩
    exact ⟨h1, h2, h3, strOf_inj hc hd h4⟩
  · rintro ⟨h1, h2, h3, h4⟩
    exact ⟨⟨h1, h2⟩, h3, by rw [h4]⟩
theorem sameA_iff {c d : Ans} (hc : Bytes c.s) (hd : Bytes d.s) : sameA c d = true ↔ c = d := by
  obtain ⟨a1, a2, a3⟩ := c
  obtain ⟨b1, b2, b3⟩ := d
  simp only [sameA, Bool.and_eq_true, decide_eq_true_eq, Ans.mk.injEq]
  constructor
  · rintro ⟨h1, h2, h3⟩
    exact ⟨h1, h2, strOf_inj hc hd h3⟩
  · rintro ⟨h1, h2, h3⟩
    exact ⟨h1, h2, by rw [h3]⟩
theorem sameE_iff {c d : Ent} (hc : Bytes c.args) (hd : Bytes d.args) : sameE c d = true ↔ c = d := by
  obtain ⟨a1, a2, a3, a4, a5, a6⟩ := c
  obtain ⟨b1, b2, b3, b4, b5, b6⟩ := d
  simp only [sameE, Bool.and_eq_true, decide_eq_true_eq, Ent.mk.injEq]
  constructor
  · rintro ⟨h1, ⟨⟨h2, h3⟩, h4, h5⟩, h6⟩
    exact ⟨h1, h2, h3, h4, strOf_inj hc hd h5, h6⟩
  · rintro ⟨h1, h2, h3, h4, h5, h6⟩
    exact ⟨h1, ⟨⟨h2, h3⟩, h4, by rw [h5]⟩, h6⟩
theorem sameL_iff {a b : Let} (ta : Ty a) (tb : Ty b) : sameL a b = true ↔ a = b := by
  have i1 := sameE_iff ta.eb tb.eb
  have i2 := sameC_iff ta.cb tb.cb
  have i3 := sameA_iff ta.ab tb.ab
  obtain ⟨a1, a2, a3, a4, a5, a6, a7, a8, a9, a10, a11, a12, a13, a14, a15, a16⟩ := a
  obtain ⟨b1, b2, b3, b4, b5, b6, b7, b8, b9, b10, b11, b12, b13, b14, b15, b16⟩ := b
  simp only at i1 i2 i3
  simp only [sameL, Bool.and_eq_true, decide_eq_true_eq, Let.mk.injEq, i1, i2, i3, beq_iff_eq]
  constructor
  · rintro ⟨h1, h2, h3, h4, ⟨h5, h6⟩, ⟨h7, h8⟩, h9, h10, ⟨h11, h12⟩, h13, ⟨h14, h15⟩, h16⟩
    exact ⟨h1, h2, h3, h4, h5, h6, h7, h8, h9, h10, h11, h12, h13, h14, h15, h16⟩
  · rintro ⟨h1, h2, h3, h4, h5, h6, h7, h8, h9, h10, h11, h12, h13, h14, h15, h16⟩
    exact ⟨h1, h2, h3, h4, ⟨h5, h6⟩, ⟨h7, h8⟩, h9, h10, ⟨h11, h12⟩, h13, ⟨h14, h15⟩, h16⟩
theorem only_ty {L : Let} (h : Ty L) : Ty (only L) := by
  obtain ⟨h1, h2, h3, h4, h5, h6, h7, h8, h9, h10⟩ := h
  have z0 : (0 : Int) ≤ 0 ∧ (0 : Int) < 65536 := by decide
  unfold only
  simp only
  split
  · exact ⟨h1, z0, z0, bytes_nil, z0, z0, bytes_nil, z0, z0, bytes_nil⟩
  split
  · split
    · exact ⟨h1, h2, h3, h4, z0, z0, bytes_nil, z0, z0, bytes_nil⟩
    · exact ⟨h1, z0, z0, bytes_nil, z0, z0, bytes_nil, z0, z0, bytes_nil⟩
  split
  · exact ⟨h1, h2, h3, h4, z0, z0, bytes_nil, z0, z0, bytes_nil⟩
  split
  · exact ⟨h1, h2, h3, h4, z0, z0, bytes_nil, z0, z0, bytes_nil⟩
  split
  · exact ⟨h1, z0, z0, bytes_nil, z0, z0, bytes_nil, z0, z0, bytes_nil⟩
  split
  · exact ⟨h1, z0, z0, bytes_nil, h5, h6, h7, z0, z0, bytes_nil⟩
  split
  · exact ⟨h1, z0, z0, bytes_nil, z0, z0, bytes_nil, h8, h9, h10⟩
  · exact ⟨h1, z0, z0, bytes_nil, z0, z0, bytes_nil, z0, z0, bytes_nil⟩
/-- Small numbers make a letter that may be. -/
theorem all_lck {S : SmL} (ok : SmOk S) (lt : S.light) : lck S.all = 0 := by
  have k := tm_lt ok.kd.1 (show (0 : Int) < 8 by decide)
  have kf := tm_lt ok.fr.1 (show (0 : Int) < 16 by decide)
  have kt := tm_lt ok.to.1 (show (0 : Int) < 16 by decide)
  have kb := tm_lt ok.bn.1 (show (0 : Int) < 16 by decide)
  have kw := tm_lt ok.wn.1 (show (0 : Int) < 16 by decide)
  have p1 := ok.pl
  have p2 := ok.br
  have p3 := ok.wr
  have p4 := ok.vn
  have rr : ∀ {r n : Int}, 0 ≤ r ∧ r < 4294967296 → 0 ≤ n ∧ n < 16 → rightB r n = true := by
    intro r n h g
    simp only [rightB, Bool.and_eq_true, decide_eq_true_eq]
    omega
  have r0 : rightB 0 0 = true := by decide
  have eE : echk S.all.E = 0 := by
    show echk S.E.ent = 0
    unfold Sm.ent
    have l1 := lt.1
    have ep : IntKind.i64.wrap S.E.p = S.E.p := wrap_i64 (by have := ok.ep; omega) (by have := ok.ep; omega)
    split
    · show echeckOf 1 S.E.t S.E.n (IntKind.i64.wrap S.E.p) S.E.args [] = 0
      have p := ok.ep
      rw [ep, echeckOf, if_neg (by decide), if_neg (by exact fun h => h.elim (fun h => h.1 rfl) (fun h => by simp at h)), if_pos rfl, ccheckOf, if_neg (by omega), if_neg (by omega)]
    split
    · show echeckOf 2 0 0 0 [] (memL S.E.mm) = 0
      rw [echeckOf, if_neg (by decide), if_neg (by exact fun h => h.elim (fun h => absurd h.2 (by simp [csameB])) (fun h => h.1 rfl)), if_neg (by decide), if_pos rfl]
      have := memL_ok S.E.mm 0 (by decide)
      rw [viewCk, if_neg (by decide)] at this
      exact this
    · decide
  have eV : viewE S.all = 0 ∨ S.all.kd ≠ 7 := by
    left
    unfold viewE
    split
    · rw [if_neg (by show ¬ 4294967296 ≤ S.vn; omega)]
      exact memL_ok S.mm S.vn p4.1
    · rfl
  have z0 : echk zE = 0 := by decide
  have k8 : S.all.kd = 0 ∨ S.all.kd = 3 ∨ S.all.kd = 1 ∨ S.all.kd = 2 ∨ S.all.kd = 4 ∨ S.all.kd = 5 ∨ S.all.kd = 6 ∨ S.all.kd = 7 := by
    show S.kd.tmod 8 = 0 ∨ S.kd.tmod 8 = 3 ∨ S.kd.tmod 8 = 1 ∨ S.kd.tmod 8 = 2 ∨ S.kd.tmod 8 = 4 ∨ S.kd.tmod 8 = 5 ∨ S.kd.tmod 8 = 6 ∨ S.kd.tmod 8 = 7
    omega
  have f1 : 0 ≤ S.all.fr ∧ S.all.fr < 16 := kf
  have f2 : 0 ≤ S.all.to ∧ S.all.to < 16 := kt
  have f3 : 0 ≤ S.all.pl ∧ S.all.pl < 4294967296 := p1
  have f4 := rr (r := S.all.br) (n := S.all.bn) p2 kb
  have f5 := rr (r := S.all.wr) (n := S.all.wn) p3 kw
  generalize S.all = L at eE eV k8 f1 f2 f3 f4 f5 ⊢
  have h8 : ¬ 8 ≤ L.kd := by omega
  have fin : ∀ o : Let, only L = o → rangeB o = true → viewE o = 0 → echk o.E = 0 → lck L = 0 := by
    intro o e1 e2 e3 e4
    rw [lck, if_neg h8, e1, if_neg (by rw [e2]; decide), if_neg (by exact fun h => h e3)]
    exact e4
  have rB : ∀ o : Let, o.fr = L.fr → o.to = L.to → 0 ≤ o.pl ∧ o.pl < 4294967296 → rightB o.br o.bn = true → rightB o.wr o.wn = true → rangeB o = true := by
    intro o a1 a2 a3 a4 a5
    simp only [rangeB, Bool.and_eq_true, decide_eq_true_eq, a1, a2]
    exact ⟨f1.1, f1.2, f2.1, f2.2, a3.1, a3.2, a4, a5⟩
  have vB : ∀ o : Let, o.kd = L.kd → L.kd ≠ 7 → viewE o = 0 := by
    intro o a1 a2
    rw [viewE, if_neg (by rw [a1]; exact a2)]
  have p0 : (0 : Int) ≤ 0 ∧ (0 : Int) < 4294967296 := by decide
  rcases k8 with q | q | q | q | q | q | q | q
  · exact fin { zL with kd := L.kd, fr := L.fr, to := L.to, pl := L.pl, br := L.br, bn := L.bn } (by rw [only, if_pos (.inl q)]) (rB _ rfl rfl f3 f4 r0) (vB _ rfl (by omega)) z0
  · exact fin { zL with kd := L.kd, fr := L.fr, to := L.to, pl := L.pl, br := L.br, bn := L.bn } (by rw [only, if_pos (.inr q)]) (rB _ rfl rfl f3 f4 r0) (vB _ rfl (by omega)) z0
  · cases hs : L.sm with
    | true => exact fin { zL with kd := L.kd, fr := L.fr, to := L.to, pl := L.pl, br := L.br, bn := L.bn, sm := true, wr := L.wr, wn := L.wn, E := L.E } (by rw [only, if_neg (by omega), if_pos q, if_pos hs]) (rB _ rfl rfl f3 f4 f5) (vB _ rfl (by omega)) eE
    | false => exact fin { zL with kd := L.kd, fr := L.fr, to := L.to, pl := L.pl, br := L.br, bn := L.bn } (by rw [only, if_neg (by omega), if_pos q, if_neg (by rw [hs]; decide)]) (rB _ rfl rfl f3 f4 r0) (vB _ rfl (by omega)) z0
  · exact fin { zL with kd := L.kd, fr := L.fr, to := L.to, pl := L.pl, br := L.br, bn := L.bn, E := L.E } (by rw [only, if_neg (by omega), if_neg (by omega), if_pos q]) (rB _ rfl rfl f3 f4 r0) (vB _ rfl (by omega)) eE
  · exact fin { zL with kd := L.kd, fr := L.fr, to := L.to, pl := L.pl, E := L.E } (by rw [only, if_neg (by omega), if_neg (by omega), if_neg (by omega), if_pos q]) (rB _ rfl rfl f3 r0 r0) (vB _ rfl (by omega)) eE
  · exact fin { zL with kd := L.kd, fr := L.fr, to := L.to, pl := L.pl } (by rw [only, if_neg (by omega), if_neg (by omega), if_neg (by omega), if_neg (by omega), if_pos q]) (rB _ rfl rfl f3 r0 r0) (vB _ rfl (by omega)) z0
  · exact fin { zL with kd := L.kd, fr := L.fr, to := L.to, C := L.C } (by rw [only, if_neg (by omega), if_neg (by omega), if_neg (by omega), if_neg (by omega), if_neg (by omega), if_pos q]) (rB _ rfl rfl p0 r0 r0) (vB _ rfl (by omega)) z0
  · refine fin { zL with kd := L.kd, fr := L.fr, to := L.to, it := L.it, nn := L.nn, vn := L.vn, vm := L.vm, A := L.A } (by rw [only, if_neg (by omega), if_neg (by omega), if_neg (by omega), if_neg (by omega), if_neg (by omega), if_neg (by omega), if_pos q]) (rB _ rfl rfl p0 r0 r0) ?_ z0
    rcases eV with h | h
    · exact h
    · exact (h q).elim
/-- Letters with the same bytes are the same. -/
theorem letB_inj {a b : Let} (fa : LFit a) (fb : LFit b) (oa : Ok a) (ob : Ok b) (ca : lck a = 0) (cb : lck b = 0) (h : letB a = letB b) : only a = only b := by
  have e1 := let_mid fa oa ca
  have e2 := let_mid fb ob cb
  rw [h, e2] at e1
  exact (Prod.mk.inj e1).1.symm
theorem bodyB_only (L : Let) (h : 0 ≤ L.kd ∧ L.kd < 8) : bodyB (only L) = bodyB L := by
  have kd := only_kd L
  have k8 : L.kd = 0 ∨ L.kd = 3 ∨ L.kd = 1 ∨ L.kd = 2 ∨ L.kd = 4 ∨ L.kd = 5 ∨ L.kd = 6 ∨ L.kd = 7 := by omega
  rcases k8 with q | q | q | q | q | q | q | q
  · have e : only L = { zL with kd := L.kd, fr := L.fr, to := L.to, pl := L.pl, br := L.br, bn := L.bn } := by rw [only, if_pos (.inl q)]
    rw [e]; simp only [bodyB, q]; rfl
  · have e : only L = { zL with kd := L.kd, fr := L.fr, to := L.to, pl := L.pl, br := L.br, bn := L.bn } := by rw [only, if_pos (.inr q)]
    rw [e]; simp only [bodyB, q]; rfl
  · cases hs : L.sm with
    | true =>
      have e : only L = { zL with kd := L.kd, fr := L.fr, to := L.to, pl := L.pl, br := L.br, bn := L.bn, sm := true, wr := L.wr, wn := L.wn, E := L.E } := by rw [only, if_neg (by omega), if_pos q, if_pos hs]
      rw [e]; simp only [bodyB, q, hs]; rfl
    | false =>
      have e : only L = { zL with kd := L.kd, fr := L.fr, to := L.to, pl := L.pl, br := L.br, bn := L.bn } := by rw [only, if_neg (by omega), if_pos q, if_neg (by rw [hs]; decide)]
      rw [e]; simp only [bodyB, q, hs]; rfl
  · have e : only L = { zL with kd := L.kd, fr := L.fr, to := L.to, pl := L.pl, br := L.br, bn := L.bn, E := L.E } := by rw [only, if_neg (by omega), if_neg (by omega), if_pos q]
    rw [e]; simp only [bodyB, q]; rfl
  · have e : only L = { zL with kd := L.kd, fr := L.fr, to := L.to, pl := L.pl, E := L.E } := by rw [only, if_neg (by omega), if_neg (by omega), if_neg (by omega), if_pos q]
    rw [e]; simp only [bodyB, q]; rfl
  · have e : only L = { zL with kd := L.kd, fr := L.fr, to := L.to, pl := L.pl } := by rw [only, if_neg (by omega), if_neg (by omega), if_neg (by omega), if_neg (by omega), if_pos q]
    rw [e]; simp only [bodyB, q]; rfl
  · have e : only L = { zL with kd := L.kd, fr := L.fr, to := L.to, C := L.C } := by rw [only, if_neg (by omega), if_neg (by omega), if_neg (by omega), if_neg (by omega), if_neg (by omega), if_pos q]
    rw [e]; simp only [bodyB, q]; rfl
  · have e : only L = { zL with kd := L.kd, fr := L.fr, to := L.to, it := L.it, nn := L.nn, vn := L.vn, vm := L.vm, A := L.A } := by rw [only, if_neg (by omega), if_neg (by omega), if_neg (by omega), if_neg (by omega), if_neg (by omega), if_neg (by omega), if_pos q]
    rw [e]; simp only [bodyB, q]; rfl
theorem letB_only (L : Let) (h : 0 ≤ L.kd ∧ L.kd < 8) : letB (only L) = letB L := by
  obtain ⟨a, b⟩ := only_cases L
  rw [letB, letB, bodyB_only L h, only_kd, a, b]
end Go.Proofs.Ytejgoooanapjbaa

set_option maxRecDepth 100000
set_option maxHeartbeats 4000000
namespace Go.Proofs.Ytejgoooanapjbaa
open Go Go.AM Go.AM.Crc Go.AM.Wire
theorem fxC17y : type_of% (And.intro (And.intro (And.intro (And.intro (And.intro (And.intro (And.intro (And.intro @Try.underlying3 @Try.underlying4) (And.intro @Try.underlying5 @Try.underlying9)) (And.intro (And.intro @Try.underlying42 @Try.underlying46) (And.intro @Try.underlying47 @Try.underlying123))) (And.intro (And.intro (And.intro @Try.underlying23 @Try.underlying26) (And.intro @Try.underlying28 @Try.underlying39)) (And.intro (And.intro @Try.underlying41 @Try.underlying44) (And.intro @Try.underlying24 @Try.underlying37)))) (And.intro (And.intro (And.intro (And.intro @Try.underlying22 @Try.underlying0) (And.intro @Try.underlying100 @Try.underlying66)) (And.intro (And.intro @Try.underlying68 @Try.underlying78) (And.intro @Try.underlying103 @Try.underlying49))) (And.intro (And.intro (And.intro @Try.underlying34 @Try.underlying36) (And.intro @Try.underlying51 @Try.underlying53)) (And.intro (And.intro @Try.underlying55 @Try.underlying88) (And.intro @Try.underlying32 (And.intro @Try.underlying30 @Try.underlying61)))))) (And.intro (And.intro (And.intro (And.intro (And.intro @Try.underlying63 @Try.underlying90) (And.intro @Try.underlying92 @Try.underlying94)) (And.intro (And.intro @ts3 @ts4) (And.intro @ts5 @ts9))) (And.intro (And.intro (And.intro @ts42 @ts46) (And.intro @ts47 @ts123)) (And.intro (And.intro @ts23 @ts26) (And.intro @ts28 (And.intro @ts39 @ts41))))) (And.intro (And.intro (And.intro (And.intro @ts44 @ts24) (And.intro @ts37 @ts22)) (And.intro (And.intro @ts0 @ts100) (And.intro @ts66 @ts68))) (And.intro (And.intro (And.intro @ts78 @ts103) (And.intro @ts49 @ts34)) (And.intro (And.intro @ts36 @ts51) (And.intro @ts53 (And.intro @ts55 @ts88))))))) (And.intro (And.intro (And.intro (And.intro (And.intro (And.intro @ts32 @ts30) (And.intro @ts61 @ts63)) (And.intro (And.intro @ts90 @ts92) (And.intro @ts94 @tz3))) (And.intro (And.intro (And.intro @tz4 @tz5) (And.intro @tz9 @tz42)) (And.intro (And.intro @tz46 @tz47) (And.intro @tz123 (And.intro @tz23 @tz26))))) (And.intro (And.intro (And.intro (And.intro @tz28 @tz39) (And.intro @tz41 @tz44)) (And.intro (And.intro @tz24 @tz37) (And.intro @tz22 @tz0))) (And.intro (And.intro (And.intro @tz100 @tz66) (And.intro @tz68 @tz78)) (And.intro (And.intro @tz103 @tz49) (And.intro @tz34 (And.intro @tz36 @tz51)))))) (And.intro (And.intro (And.intro (And.intro (And.intro @tz53 @tz55) (And.intro @tz88 @tz32)) (And.intro (And.intro @tz30 @tz61) (And.intro @tz63 @tz90))) (And.intro (And.intro (And.intro @tz92 @tz94) (And.intro @tb3 @tb4)) (And.intro (And.intro @tb5 @tb9) (And.intro @tb42 (And.intro @tb46 @tb47))))) (And.intro (And.intro (And.intro (And.intro @tb123 @tb23) (And.intro @tb26 @tb28)) (And.intro (And.intro @tb39 @tb41) (And.intro @tb44 @tb24))) (And.intro (And.intro (And.intro @tb37 @tb22) (And.intro @tb0 @tb100)) (And.intro (And.intro @tb66 @tb68) (And.intro @tb78 (And.intro @tb103 @tb49)))))))) (And.intro (And.intro (And.intro (And.intro (And.intro (And.intro (And.intro @tb34 @tb36) (And.intro @tb51 @tb53)) (And.intro (And.intro @tb55 @tb88) (And.intro @tb32 @tb30))) (And.intro (And.intro (And.intro @tb61 @tb63) (And.intro @tb90 @tb92)) (And.intro (And.intro @tb94 @fr8) (And.intro @fr9 (And.intro @fr10 @fr11))))) (And.intro (And.intro (And.intro (And.intro @fr13 @fr15) (And.intro @fr16 @fr18)) (And.intro (And.intro @fr19 @fr20) (And.intro @fr21 @fr22))) (And.intro (And.intro (And.intro @fr23 @fr24) (And.intro @fr25 @fr26)) (And.intro (And.intro @fr27 @fr28) (And.intro @fr38 (And.intro @fr39 @fr40)))))) (And.intro (And.intro (And.intro (And.intro (And.intro @fr41 @fr42) (And.intro @fr51 @fr52)) (And.intro (And.intro @fr53 @fr54) (And.intro @fr3 @fr4))) (And.intro (And.intro (And.intro @fr5 @fr6) (And.intro @fr7 @fr12)) (And.intro (And.intro @fr14 @fr17) (And.intro @bz46 (And.intro @al46 @fa46_0))))) (And.intro (And.intro (And.intro (And.intro @fa46_1 @bz28) (And.intro @bz26 @bz41)) (And.intro (And.intro @bz44 @al41) (And.intro @al44 @fa44_0))) (And.intro (And.intro (And.intro @fa44_1 @fa44_2) (And.intro @fa41_0 @fa41_1)) (And.intro (And.intro @fa41_2 @fa28_0) (And.intro @fa28_1 (And.intro @fa28_2 @fa26_0))))))) (And.intro (And.intro (And.intro (And.intro (And.intro (And.intro @fa26_1 @fa26_2) (And.intro @fa26_3 @bz103)) (And.intro (And.intro @al68 @al103) (And.intro @fa68_0 @fa103_0))) (And.intro (And.intro (And.intro @fa103_1 @fa103_2) (And.intro @bin_weq @bin_wneq)) (And.intro (And.intro @bin_req @bin_rneq) (And.intro @bz39 (And.intro @fa39_0 @fa39_1))))) (And.intro (And.intro (And.intro (And.intro @bz68 @bz49) (And.intro @al49 @fa49_0)) (And.intro (And.intro @fa49_1 @fa49_2) (And.intro @bz51 @al51))) (And.intro (And.intro (And.intro @fa51_0 @fa51_1) (And.intro @fa51_2 @fa51_3)) (And.intro (And.intro @fa51_4 @fa51_5) (And.intro @fa51_6 (And.intro @fa51_7 @fa51_8)))))) (And.intro (And.intro (And.intro (And.intro (And.intro @fa51_9 @fa51_10) (And.intro @fa51_11 @bz36)) (And.intro (And.intro @al36 @fa36_0) (And.intro @fa36_1 @oneOf_two))) (And.intro (And.intro (And.intro @al24 @al90) (And.intro @bz32 @fa32_0)) (And.intro (And.intro @fa32_1 @fa32_2) (And.intro @fa32_3 (And.intro @fa32_4 @fa32_5))))) (And.intro (And.intro (And.intro (And.intro @fa32_6 @fa32_7) (And.intro @fa32_8 @fa32_9)) (And.intro (And.intro @fa32_10 @fa32_11) (And.intro @fa32_12 @fa32_13))) (And.intro (And.intro (And.intro @fa32_14 @fa32_15) (And.intro @al32 @al28)) (And.intro (And.intro @al26 @fa30_0) (And.intro @fa30_1 (And.intro @fa30_2 @al30))))))))) := (And.intro (And.intro (And.intro (And.intro (And.intro (And.intro (And.intro (And.intro @Try.underlying3 @Try.underlying4) (And.intro @Try.underlying5 @Try.underlying9)) (And.intro (And.intro @Try.underlying42 @Try.underlying46) (And.intro @Try.underlying47 @Try.underlying123))) (And.intro (And.intro (And.intro @Try.underlying23 @Try.underlying26) (And.intro @Try.underlying28 @Try.underlying39)) (And.intro (And.intro @Try.underlying41 @Try.underlying44) (And.intro @Try.underlying24 @Try.underlying37)))) (And.intro (And.intro (And.intro (And.intro @Try.underlying22 @Try.underlying0) (And.intro @Try.underlying100 @Try.underlying66)) (And.intro (And.intro @Try.underlying68 @Try.underlying78) (And.intro @Try.underlying103 @Try.underlying49))) (And.intro (And.intro (And.intro @Try.underlying34 @Try.underlying36) (And.intro @Try.underlying51 @Try.underlying53)) (And.intro (And.intro @Try.underlying55 @Try.underlying88) (And.intro @Try.underlying32 (And.intro @Try.underlying30 @Try.underlying61)))))) (And.intro (And.intro (And.intro (And.intro (And.intro @Try.underlying63 @Try.underlying90) (And.intro @Try.underlying92 @Try.underlying94)) (And.intro (And.intro @ts3 @ts4) (And.intro @ts5 @ts9))) (And.intro (And.intro (And.intro @ts42 @ts46) (And.intro @ts47 @ts123)) (And.intro (And.intro @ts23 @ts26) (And.intro @ts28 (And.intro @ts39 @ts41))))) (And.intro (And.intro (And.intro (And.intro @ts44 @ts24) (And.intro @ts37 @ts22)) (And.intro (And.intro @ts0 @ts100) (And.intro @ts66 @ts68))) (And.intro (And.intro (And.intro @ts78 @ts103) (And.intro @ts49 @ts34)) (And.intro (And.intro @ts36 @ts51) (And.intro @ts53 (And.intro @ts55 @ts88))))))) (And.intro (And.intro (And.intro (And.intro (And.intro (And.intro @ts32 @ts30) (And.intro @ts61 @ts63)) (And.intro (And.intro @ts90 @ts92) (And.intro @ts94 @tz3))) (And.intro (And.intro (And.intro @tz4 @tz5) (And.intro @tz9 @tz42)) (And.intro (And.intro @tz46 @tz47) (And.intro @tz123 (And.intro @tz23 @tz26))))) (And.intro (And.intro (And.intro (And.intro @tz28 @tz39) (And.intro @tz41 @tz44)) (And.intro (And.intro @tz24 @tz37) (And.intro @tz22 @tz0))) (And.intro (And.intro (And.intro @tz100 @tz66) (And.intro @tz68 @tz78)) (And.intro (And.intro @tz103 @tz49) (And.intro @tz34 (And.intro @tz36 @tz51)))))) (And.intro (And.intro (And.intro (And.intro (And.intro @tz53 @tz55) (And.intro @tz88 @tz32)) (And.intro (And.intro @tz30 @tz61) (And.intro @tz63 @tz90))) (And.intro (And.intro (And.intro @tz92 @tz94) (And.intro @tb3 @tb4)) (And.intro (And.intro @tb5 @tb9) (And.intro @tb42 (And.intro @tb46 @tb47))))) (And.intro (And.intro (And.intro (And.intro @tb123 @tb23) (And.intro @tb26 @tb28)) (And.intro (And.intro @tb39 @tb41) (And.intro @tb44 @tb24))) (And.intro (And.intro (And.intro @tb37 @tb22) (And.intro @tb0 @tb100)) (And.intro (And.intro @tb66 @tb68) (And.intro @tb78 (And.intro @tb103 @tb49)))))))) (And.intro (And.intro (And.intro (And.intro (And.intro (And.intro (And.intro @tb34 @tb36) (And.intro @tb51 @tb53)) (And.intro (And.intro @tb55 @tb88) (And.intro @tb32 @tb30))) (And.intro (And.intro (And.intro @tb61 @tb63) (And.intro @tb90 @tb92)) (And.intro (And.intro @tb94 @fr8) (And.intro @fr9 (And.intro @fr10 @fr11))))) (And.intro (And.intro (And.intro (And.intro @fr13 @fr15) (And.intro @fr16 @fr18)) (And.intro (And.intro @fr19 @fr20) (And.intro @fr21 @fr22))) (And.intro (And.intro (And.intro @fr23 @fr24) (And.intro @fr25 @fr26)) (And.intro (And.intro @fr27 @fr28) (And.intro @fr38 (And.intro @fr39 @fr40)))))) (And.intro (And.intro (And.intro (And.intro (And.intro @fr41 @fr42) (And.intro @fr51 @fr52)) (And.intro (And.intro @fr53 @fr54) (And.intro @fr3 @fr4))) (And.intro (And.intro (And.intro @fr5 @fr6) (And.intro @fr7 @fr12)) (And.intro (And.intro @fr14 @fr17) (And.intro @bz46 (And.intro @al46 @fa46_0))))) (And.intro (And.intro (And.intro (And.intro @fa46_1 @bz28) (And.intro @bz26 @bz41)) (And.intro (And.intro @bz44 @al41) (And.intro @al44 @fa44_0))) (And.intro (And.intro (And.intro @fa44_1 @fa44_2) (And.intro @fa41_0 @fa41_1)) (And.intro (And.intro @fa41_2 @fa28_0) (And.intro @fa28_1 (And.intro @fa28_2 @fa26_0))))))) (And.intro (And.intro (And.intro (And.intro (And.intro (And.intro @fa26_1 @fa26_2) (And.intro @fa26_3 @bz103)) (And.intro (And.intro @al68 @al103) (And.intro @fa68_0 @fa103_0))) (And.intro (And.intro (And.intro @fa103_1 @fa103_2) (And.intro @bin_weq @bin_wneq)) (And.intro (And.intro @bin_req @bin_rneq) (And.intro @bz39 (And.intro @fa39_0 @fa39_1))))) (And.intro (And.intro (And.intro (And.intro @bz68 @bz49) (And.intro @al49 @fa49_0)) (And.intro (And.intro @fa49_1 @fa49_2) (And.intro @bz51 @al51))) (And.intro (And.intro (And.intro @fa51_0 @fa51_1) (And.intro @fa51_2 @fa51_3)) (And.intro (And.intro @fa51_4 @fa51_5) (And.intro @fa51_6 (And.intro @fa51_7 @fa51_8)))))) (And.intro (And.intro (And.intro (And.intro (And.intro @fa51_9 @fa51_10) (And.intro @fa51_11 @bz36)) (And.intro (And.intro @al36 @fa36_0) (And.intro @fa36_1 @oneOf_two))) (And.intro (And.intro (And.intro @al24 @al90) (And.intro @bz32 @fa32_0)) (And.intro (And.intro @fa32_1 @fa32_2) (And.intro @fa32_3 (And.intro @fa32_4 @fa32_5))))) (And.intro (And.intro (And.intro (And.intro @fa32_6 @fa32_7) (And.intro @fa32_8 @fa32_9)) (And.intro (And.intro @fa32_10 @fa32_11) (And.intro @fa32_12 @fa32_13))) (And.intro (And.intro (And.intro @fa32_14 @fa32_15) (And.intro @al32 @al28)) (And.intro (And.intro @al26 @fa30_0) (And.intro @fa30_1 (And.intro @fa30_2 @al30)))))))))
theorem bld51z : opBuild Try.prog 51 [] = some (.agg (zCells 0 0 0).toArray) := by kernel_rfl
theorem zL_is (m : Mem) : LetF m (.agg (zCells 0 0 0).toArray) zL := ⟨_, _, _, _, _, rfl, FRow.nil, FRow.nil, FRow.nil, FRow.nil, FRow.nil⟩
theorem zL_ok : Ok zL := ⟨by decide, by decide, by decide, by decide, by decide, by decide, by decide, by decide⟩
theorem zL_ty : Ty zL := ⟨by decide, by decide, by decide, bytes_nil, by decide, by decide, bytes_nil, by decide, by decide, bytes_nil⟩
theorem zL_lck : lck zL = 0 := by decide
theorem zL_only : only zL = zL := by rw [only, if_pos (.inl rfl)]
theorem zL_len : (letB zL).length = 16 := by decide
theorem zL_take : letS (letB zL) = (zL, 0) := by
  have := let_mid (lfit_of zL_ok zL_ty zL_lck) zL_ok zL_lck
  rw [zL_only] at this
  exact this
theorem awake_ret {m : Mem} {K : Value → Mem → Prop} (hK : ∀ m', Ext m m' → K (.bool true) m') : Ret Try.prog 7 [] m K := by
  refine ret_wp [] Try.func7 rfl (by decide) (by kernel_rfl) ?_
  simp only [Nat.reduceAdd, reduceIte, Nat.reduceEqDiff, reduceCtorEq, opLen, Int.reduceLT, Int.reduceEq, opConvert, opIndexAddr, opLoad, Nat.reduceLT, undef, Nat.reduceLeDiff, Array.toList, wk4, wk5, wk0, fxC17y, bld51z]
  refine lput_ret (zL_is m) zL_ok zL_ty (fun h => (h zL_lck).elim) (fun _ m1 r1 x1 y1 z1 g1 => ?_)
  rw [zL_len]
  simp only [Nat.reduceAdd, reduceIte, Nat.reduceEqDiff, reduceCtorEq, opLen, Int.reduceLT, Int.reduceEq, opConvert, opIndexAddr, opLoad, Nat.reduceLT, undef, Nat.reduceLeDiff, Array.toList, wk4, wk5, wk0, fxC17y]
  have B : Byr m1 r1 (letB zL) := ⟨z1, g1⟩
  have sh : ∀ M, Ext m1 M → Shows M (.slice (some ⟨r1, 0, none⟩) 16 1) (byteCells (letB zL)) := fun M x => by
    have := (B.ext x).shows
    rw [rowV, zL_len] at this
    exact this
  refine ltake_ret sh (by rw [zL_len]; decide) (letB_bytes (lfit_of zL_ok zL_ty zL_lck) zL_ok zL_ty) fun m2 v2 x2 f2 => ?_
  rw [zL_take] at f2 ⊢
  obtain ⟨ea, em, vm, ca, aa, rfl, f2⟩ := f2
  obtain ⟨c1, y1, rfl⟩ := f2.ea.is
  obtain ⟨c2, y2, rfl⟩ := f2.em.is
  obtain ⟨c3, y3, rfl⟩ := f2.vm.is
  obtain ⟨c4, y4, rfl⟩ := f2.ca.is
  obtain ⟨c5, y5, rfl⟩ := f2.aa.is
  have X2 := x1.trans x2
  have h16 : ((16 : Nat) : Int) = 16 := rfl
  simp only [Nat.reduceAdd, reduceIte, Nat.reduceEqDiff, reduceCtorEq, opLen, Int.reduceLT, Int.reduceEq, opConvert, opIndexAddr, opLoad, Nat.reduceLT, undef, Nat.reduceLeDiff, Array.toList, wk4, wk5, wk0, fxC17y, bld51z, h16]
  obtain ⟨m3, hm3⟩ : ∃ M, M = (m2.new (.cells (zCells 0 0 0) 51 true)).set m2.next (.cells (letC zL (.slice c1 zL.E.args.length y1) (.slice c2 zL.E.mem.length y2) (.slice c3 zL.vm.length y3) (.slice c4 zL.C.s.length y4) (.slice c5 zL.A.s.length y5)) 51 true) := ⟨_, rfl⟩
  have x3 : Ext m2 m3 := by rw [hm3]; exact (Ext.new _ _).set (Nat.le_refl _)
  refine lsame_ret (a := zL) (b := zL) ⟨_, _, _, _, _, rfl, f2.pz ((Ext.new _ _).set (Nat.le_refl _)).pz⟩ (zL_is _) zL_ok fun m4 x4 => ?_
  rw [sameL_self]
  simp only [Nat.reduceAdd, reduceIte, Nat.reduceEqDiff, reduceCtorEq, opLen, Int.reduceLT, Int.reduceEq, opConvert, opIndexAddr, opLoad, Nat.reduceLT, undef, Nat.reduceLeDiff, Array.toList, wk4, wk5, wk0, fxC17y]
  exact hK _ ((X2.trans ((Ext.new _ _).set (Nat.le_refl _))).trans x4)
/-- Which letters are right. -/
def Rg (L : Let) : Prop := (0 ≤ L.fr ∧ L.fr < 16) ∧ (0 ≤ L.to ∧ L.to < 16) ∧ (L.kd ≤ 5 → 0 ≤ L.pl ∧ L.pl < 4294967296) ∧ (L.kd < 4 → (0 ≤ L.br ∧ L.br < 4294967296) ∧ 0 ≤ L.bn ∧ L.bn < 16) ∧ (L.kd = 1 → L.sm = true → (0 ≤ L.wr ∧ L.wr < 4294967296) ∧ 0 ≤ L.wn ∧ L.wn < 16) ∧ (L.kd = 7 → 0 ≤ L.vn ∧ L.vn < 4294967296)
theorem lck_rg {L : Let} (hk : 0 ≤ L.kd ∧ L.kd < 8) (hE : echk L.E = 0) (hV : memCk L.vm = 0) : (Rg L → lck L = 0) ∧ (¬ Rg L → lck L = 2) := by
  have h8 : ¬ 8 ≤ L.kd := by omega
  have z0 : echk zE = 0 := by decide
  have fin : ∀ o : Let, only L = o → L.kd ≠ 7 → o.kd = L.kd → (rangeB o = true ↔ Rg L) → echk o.E = 0 → (Rg L → lck L = 0) ∧ (¬ Rg L → lck L = 2) := by
    intro o e1 e2 e3 e4 e5
    have ev : viewE o = 0 := by rw [viewE, if_neg (by rw [e3]; exact e2)]
    constructor
    · intro h
      rw [lck, if_neg h8, e1, if_neg (by rw [e4.2 h]; decide), if_neg (by exact fun h => h ev)]
      exact e5
    · intro h
      rw [lck, if_neg h8, e1, if_pos (by
        cases hc : rangeB o with
        | false => rfl
        | true => exact (h (e4.1 hc)).elim)]
  have k8 : L.kd = 0 ∨ L.kd = 3 ∨ L.kd = 1 ∨ L.kd = 2 ∨ L.kd = 4 ∨ L.kd = 5 ∨ L.kd = 6 ∨ L.kd = 7 := by omega
  have b0 : rightB 0 0 = true := by decide
  rcases k8 with q | q | q | q | q | q | q | q
  · refine fin { zL with kd := L.kd, fr := L.fr, to := L.to, pl := L.pl, br := L.br, bn := L.bn } (by rw [only, if_pos (.inl q)]) (by omega) rfl ?_ z0
    simp only [rangeB, rightB, Bool.and_eq_true, decide_eq_true_eq, Rg, zL]
    constructor
    · intro h; exact ⟨by omega, by omega, fun _ => by omega, fun _ => by omega, fun k _ => by omega, fun k => by omega⟩
    · rintro ⟨h1, h2, h3, h4, h5, h6⟩; clear h5; repeat' apply And.intro
      all_goals first | omega | rfl
  · refine fin { zL with kd := L.kd, fr := L.fr, to := L.to, pl := L.pl, br := L.br, bn := L.bn } (by rw [only, if_pos (.inr q)]) (by omega) rfl ?_ z0
    simp only [rangeB, rightB, Bool.and_eq_true, decide_eq_true_eq, Rg, zL]
    constructor
    · intro h; exact ⟨by omega, by omega, fun _ => by omega, fun _ => by omega, fun k _ => by omega, fun k => by omega⟩
    · rintro ⟨h1, h2, h3, h4, h5, h6⟩; clear h5; repeat' apply And.intro
      all_goals first | omega | rfl
  · cases hs : L.sm with
    | true =>
      refine fin { zL with kd := L.kd, fr := L.fr, to := L.to, pl := L.pl, br := L.br, bn := L.bn, sm := true, wr := L.wr, wn := L.wn, E := L.E } (by rw [only, if_neg (by omega), if_pos q, if_pos hs]) (by omega) rfl ?_ hE
      simp only [rangeB, rightB, Bool.and_eq_true, decide_eq_true_eq, Rg, zL, hs, true_implies]
      constructor
      · intro h; exact ⟨by omega, by omega, fun _ => by omega, fun _ => by omega, fun k => by omega, fun k => by omega⟩
      · rintro ⟨h1, h2, h3, h4, h5, h6⟩; omega
    | false =>
      refine fin { zL with kd := L.kd, fr := L.fr, to := L.to, pl := L.pl, br := L.br, bn := L.bn } (by rw [only, if_neg (by omega), if_pos q, if_neg (by rw [hs]; decide)]) (by omega) rfl ?_ z0
      simp only [rangeB, rightB, Bool.and_eq_true, decide_eq_true_eq, Rg, zL]
      constructor
      · intro h; exact ⟨by omega, by omega, fun _ => by omega, fun _ => by omega, fun _ k => by rw [hs] at k; simp at k, fun k => by omega⟩
      · rintro ⟨h1, h2, h3, h4, h5, h6⟩; clear h5; repeat' apply And.intro
        all_goals first | omega | rfl
  · refine fin { zL with kd := L.kd, fr := L.fr, to := L.to, pl := L.pl, br := L.br, bn := L.bn, E := L.E } (by rw [only, if_neg (by omega), if_neg (by omega), if_pos q]) (by omega) rfl ?_ hE
    simp only [rangeB, rightB, Bool.and_eq_true, decide_eq_true_eq, Rg, zL]
    constructor
    · intro h; exact ⟨by omega, by omega, fun _ => by omega, fun _ => by omega, fun k _ => by omega, fun k => by omega⟩
    · rintro ⟨h1, h2, h3, h4, h5, h6⟩; clear h5; repeat' apply And.intro
      all_goals first | omega | rfl
  · refine fin { zL with kd := L.kd, fr := L.fr, to := L.to, pl := L.pl, E := L.E } (by rw [only, if_neg (by omega), if_neg (by omega), if_neg (by omega), if_pos q]) (by omega) rfl ?_ hE
    simp only [rangeB, rightB, Bool.and_eq_true, decide_eq_true_eq, Rg, zL]
    constructor
    · intro h; exact ⟨by omega, by omega, fun _ => by omega, fun _ => by omega, fun k _ => by omega, fun k => by omega⟩
    · rintro ⟨h1, h2, h3, h4, h5, h6⟩; clear h5; repeat' apply And.intro
      all_goals first | omega | rfl
  · refine fin { zL with kd := L.kd, fr := L.fr, to := L.to, pl := L.pl } (by rw [only, if_neg (by omega), if_neg (by omega), if_neg (by omega), if_neg (by omega), if_pos q]) (by omega) rfl ?_ z0
    simp only [rangeB, rightB, Bool.and_eq_true, decide_eq_true_eq, Rg, zL]
    constructor
    · intro h; exact ⟨by omega, by omega, fun _ => by omega, fun _ => by omega, fun k _ => by omega, fun k => by omega⟩
    · rintro ⟨h1, h2, h3, h4, h5, h6⟩; clear h5; repeat' apply And.intro
      all_goals first | omega | rfl
  · refine fin { zL with kd := L.kd, fr := L.fr, to := L.to, C := L.C } (by rw [only, if_neg (by omega), if_neg (by omega), if_neg (by omega), if_neg (by omega), if_neg (by omega), if_pos q]) (by omega) rfl ?_ z0
    simp only [rangeB, rightB, Bool.and_eq_true, decide_eq_true_eq, Rg, zL]
    constructor
    · intro h; exact ⟨by omega, by omega, fun _ => by omega, fun _ => by omega, fun k _ => by omega, fun k => by omega⟩
    · rintro ⟨h1, h2, h3, h4, h5, h6⟩; clear h5; repeat' apply And.intro
      all_goals first | omega | rfl
  · have e : only L = { zL with kd := L.kd, fr := L.fr, to := L.to, it := L.it, nn := L.nn, vn := L.vn, vm := L.vm, A := L.A } := by rw [only, if_neg (by omega), if_neg (by omega), if_neg (by omega), if_neg (by omega), if_neg (by omega), if_neg (by omega), if_pos q]
    have hr : rangeB (only L) = decide ((0 ≤ L.fr ∧ L.fr < 16) ∧ 0 ≤ L.to ∧ L.to < 16) := by
      rw [e, Bool.eq_iff_iff]
      simp only [rangeB, rightB, Bool.and_eq_true, decide_eq_true_eq, zL]
      constructor
      · rintro ⟨a, b, c, d, _⟩
        exact ⟨⟨a, b⟩, c, d⟩
      · rintro ⟨⟨a, b⟩, c, d⟩
        repeat' apply And.intro
        all_goals first | omega | rfl
    have hv : viewE (only L) = if 0 ≤ L.vn ∧ L.vn < 4294967296 then 0 else 2 := by
      rw [e, viewE, if_pos q]
      show (if 4294967296 ≤ L.vn then (2 : Int) else viewCk L.vn L.vm) = _
      rw [viewCk, hV]
      by_cases h1 : 4294967296 ≤ L.vn
      · rw [if_pos h1, if_neg (by omega)]
      · rw [if_neg h1]
        by_cases h2 : L.vn < 0
        · rw [if_pos h2, if_neg (by omega)]
        · rw [if_neg h2, if_pos (by omega)]
    have hE0 : echk (only L).E = 0 := by rw [e]; exact z0
    constructor
    · intro h
      obtain ⟨h1, h2, _, _, _, h3⟩ := h
      rw [lck, if_neg h8, hr, if_neg (by rw [decide_eq_true (show (0 ≤ L.fr ∧ L.fr < 16) ∧ 0 ≤ L.to ∧ L.to < 16 from ⟨h1, h2⟩)]; decide), hv, if_pos (h3 q), if_neg (by exact fun h => h rfl)]
      exact hE0
    · intro h
      rw [lck, if_neg h8, hr]
      by_cases h1 : (0 ≤ L.fr ∧ L.fr < 16) ∧ 0 ≤ L.to ∧ L.to < 16
      · have h2 : ¬ (0 ≤ L.vn ∧ L.vn < 4294967296) := fun h2 => h ⟨h1.1, h1.2, fun _ => by omega, fun _ => by omega, fun _ => by omega, fun _ => h2⟩
        rw [if_neg (by rw [decide_eq_true h1]; decide), hv, if_neg h2, if_pos (by decide)]
      · rw [if_pos (decide_eq_false h1)]
theorem all_rg {S : SmL} (ok : SmOk S) : Rg S.all := by
  have kf := tm_lt ok.fr.1 (show (0 : Int) < 16 by decide)
  have kt := tm_lt ok.to.1 (show (0 : Int) < 16 by decide)
  have kb := tm_lt ok.bn.1 (show (0 : Int) < 16 by decide)
  have kw := tm_lt ok.wn.1 (show (0 : Int) < 16 by decide)
  exact ⟨kf, kt, fun _ => ok.pl, fun _ => ⟨ok.br, kb⟩, fun _ _ => ⟨ok.wr, kw⟩, fun _ => ok.vn⟩
theorem all_E {S : SmL} (ok : SmOk S) (lt : S.light) : echk S.all.E = 0 := by
  show echk S.E.ent = 0
  unfold Sm.ent
  have l1 := lt.1
  have ep : IntKind.i64.wrap S.E.p = S.E.p := wrap_i64 (by have := ok.ep; omega) (by have := ok.ep; omega)
  split
  · show echeckOf 1 S.E.t S.E.n (IntKind.i64.wrap S.E.p) S.E.args [] = 0
    have p := ok.ep
    rw [ep, echeckOf, if_neg (by decide), if_neg (by exact fun h => h.elim (fun h => h.1 rfl) (fun h => by simp at h)), if_pos rfl, ccheckOf, if_neg (by omega), if_neg (by omega)]
  split
  · show echeckOf 2 0 0 0 [] (memL S.E.mm) = 0
    rw [echeckOf, if_neg (by decide), if_neg (by exact fun h => h.elim (fun h => absurd h.2 (by simp [csameB])) (fun h => h.1 rfl)), if_neg (by decide), if_pos rfl]
    have := memL_ok S.E.mm 0 (by decide)
    rw [viewCk, if_neg (by decide)] at this
    exact this
  · decide
theorem all_V (S : SmL) : memCk S.all.vm = 0 := by
  have := memL_ok S.mm 0 (by decide)
  rw [viewCk, if_neg (by decide)] at this
  exact this
theorem small_of {H : Type} {k : Nat} {m : Mem} {d : DataW H} {v : Value} (hd : IsD Try.prog (k + 7) 32 d) (h : Lies Try.prog m 32 d v) : ∃ S : SmL, SmLF m v S ∧ SmOk S := by
  obtain ⟨ps, cs, rfl, rfl, hp⟩ := lies_struct (k := k + 6) Try.underlying32 hd h
  obtain ⟨p0, pr, c0, cr, rfl, rfl, i0, l0, hp⟩ := partsC_cons hp
  obtain ⟨p1, pr, c1, cr, rfl, rfl, i1, l1, hp⟩ := partsC_cons hp
  obtain ⟨p2, pr, c2, cr, rfl, rfl, i2, l2, hp⟩ := partsC_cons hp
  obtain ⟨p3, pr, c3, cr, rfl, rfl, i3, l3, hp⟩ := partsC_cons hp
  obtain ⟨p4, pr, c4, cr, rfl, rfl, i4, l4, hp⟩ := partsC_cons hp
  obtain ⟨p5, pr, c5, cr, rfl, rfl, i5, l5, hp⟩ := partsC_cons hp
  obtain ⟨p6, pr, c6, cr, rfl, rfl, i6, l6, hp⟩ := partsC_cons hp
  obtain ⟨p7, pr, c7, cr, rfl, rfl, i7, l7, hp⟩ := partsC_cons hp
  obtain ⟨p8, pr, c8, cr, rfl, rfl, i8, l8, hp⟩ := partsC_cons hp
  obtain ⟨p9, pr, c9, cr, rfl, rfl, i9, l9, hp⟩ := partsC_cons hp
  obtain ⟨p10, pr, c10, cr, rfl, rfl, i10, l10, hp⟩ := partsC_cons hp
  obtain ⟨p11, pr, c11, cr, rfl, rfl, i11, l11, hp⟩ := partsC_cons hp
  obtain ⟨p12, pr, c12, cr, rfl, rfl, i12, l12, hp⟩ := partsC_cons hp
  obtain ⟨p13, pr, c13, cr, rfl, rfl, i13, l13, hp⟩ := partsC_cons hp
  obtain ⟨p14, pr, c14, cr, rfl, rfl, i14, l14, hp⟩ := partsC_cons hp
  obtain ⟨p15, pr, c15, cr, rfl, rfl, i15, l15, hp⟩ := partsC_cons hp
  obtain ⟨rfl, rfl⟩ := partsC_nil hp
  obtain ⟨x0, rfl, w0⟩ := liesC_int (k := k + 5) Try.underlying5 i0 l0
  obtain ⟨x1, rfl, w1⟩ := liesC_int (k := k + 5) Try.underlying5 i1 l1
  obtain ⟨x2, rfl, w2⟩ := liesC_int (k := k + 5) Try.underlying5 i2 l2
  obtain ⟨x3, rfl, w3⟩ := liesC_int (k := k + 5) Try.underlying22 i3 l3
  obtain ⟨x4, rfl, w4⟩ := liesC_int (k := k + 5) Try.underlying22 i4 l4
  obtain ⟨x5, rfl, w5⟩ := liesC_int (k := k + 5) Try.underlying22 i5 l5
  obtain ⟨x6, rfl, w6⟩ := liesC_int (k := k + 5) Try.underlying5 i6 l6
  obtain ⟨x7, rfl, w7⟩ := liesC_int (k := k + 5) Try.underlying5 i7 l7
  obtain ⟨x8, rfl⟩ := liesC_bool (k := k + 5) Try.underlying4 i8 l8
  obtain ⟨qs, rfl, hq⟩ := liesC_struct (k := k + 5) Try.underlying28 i9 l9
  obtain ⟨q0, qr, e0, er, rfl, rfl, j0, k0, hq⟩ := partsC_cons hq
  obtain ⟨q1, qr, e1, er, rfl, rfl, j1, k1, hq⟩ := partsC_cons hq
  obtain ⟨q2, qr, e2, er, rfl, rfl, j2, k2, hq⟩ := partsC_cons hq
  obtain ⟨rfl, rfl⟩ := partsC_nil hq
  obtain ⟨y0, rfl, u0⟩ := liesC_int (k := k + 4) Try.underlying5 j0 k0
  obtain ⟨y2, rfl, u2⟩ := liesC_int (k := k + 4) Try.underlying23 j2 k2
  obtain ⟨rs, rfl, hr⟩ := liesC_struct (k := k + 4) Try.underlying26 j1 k1
  obtain ⟨r0, rr, g0, gr, rfl, rfl, n0, o0, hr⟩ := partsC_cons hr
  obtain ⟨r1, rr, g1, gr, rfl, rfl, n1, o1, hr⟩ := partsC_cons hr
  obtain ⟨r2, rr, g2, gr, rfl, rfl, n2, o2, hr⟩ := partsC_cons hr
  obtain ⟨r3, rr, g3, gr, rfl, rfl, n3, o3, hr⟩ := partsC_cons hr
  obtain ⟨rfl, rfl⟩ := partsC_nil hr
  obtain ⟨t0, rfl, v0⟩ := liesC_int (k := k + 3) Try.underlying23 n0 o0
  obtain ⟨t1, rfl, v1⟩ := liesC_int (k := k + 3) Try.underlying23 n1 o1
  obtain ⟨t2, rfl, v2⟩ := liesC_int (k := k + 3) Try.underlying23 n2 o2
  obtain ⟨va, zs, rfl, z1, _, hs⟩ := liesC_nums (k := k + 2) Try.underlying24 Try.underlying5 (by kernel_rfl) n3 o3
  obtain ⟨rs, rfl, hr⟩ := liesC_struct (k := k + 5) Try.underlying26 i10 l10
  obtain ⟨r0, rr, g0, gr, rfl, rfl, n0, o0, hr⟩ := partsC_cons hr
  obtain ⟨r1, rr, g1, gr, rfl, rfl, n1, o1, hr⟩ := partsC_cons hr
  obtain ⟨r2, rr, g2, gr, rfl, rfl, n2, o2, hr⟩ := partsC_cons hr
  obtain ⟨r3, rr, g3, gr, rfl, rfl, n3, o3, hr⟩ := partsC_cons hr
  obtain ⟨rfl, rfl⟩ := partsC_nil hr
  obtain ⟨s0, rfl, b0⟩ := liesC_int (k := k + 4) Try.underlying23 n0 o0
  obtain ⟨s1, rfl, b1⟩ := liesC_int (k := k + 4) Try.underlying23 n1 o1
  obtain ⟨s2, rfl, b2⟩ := liesC_int (k := k + 4) Try.underlying23 n2 o2
  obtain ⟨vb, zt, rfl, z2, _, ht⟩ := liesC_nums (k := k + 3) Try.underlying24 Try.underlying5 (by kernel_rfl) n3 o3
  obtain ⟨x11, rfl, w11⟩ := liesC_int (k := k + 5) Try.underlying22 i11 l11
  obtain ⟨x12, rfl, w12⟩ := liesC_int (k := k + 5) Try.underlying23 i12 l12
  obtain ⟨x13, rfl, w13⟩ := liesC_int (k := k + 5) Try.underlying23 i13 l13
  obtain ⟨x14, rfl, w14⟩ := liesC_int (k := k + 5) Try.underlying23 i14 l14
  obtain ⟨rs, rfl, hr⟩ := liesC_struct (k := k + 5) Try.underlying30 i15 l15
  obtain ⟨r0, rr, g0, gr, rfl, rfl, n0, o0, hr⟩ := partsC_cons hr
  obtain ⟨r1, rr, g1, gr, rfl, rfl, n1, o1, hr⟩ := partsC_cons hr
  obtain ⟨r2, rr, g2, gr, rfl, rfl, n2, o2, hr⟩ := partsC_cons hr
  obtain ⟨rfl, rfl⟩ := partsC_nil hr
  obtain ⟨d0, rfl, a0⟩ := liesC_int (k := k + 4) Try.underlying23 n0 o0
  obtain ⟨d1, rfl, a1⟩ := liesC_int (k := k + 4) Try.underlying23 n1 o1
  obtain ⟨vc, zu, rfl, z3, _, hu⟩ := liesC_nums (k := k + 3) Try.underlying24 Try.underlying5 (by kernel_rfl) n2 o2
  refine ⟨⟨x0, x1, x2, x3, x4, x5, x6, x7, x8, ⟨y0, t0, t1, t2, zs, y2⟩, ⟨s0, s1, s2, zt⟩, x11, x12, x13, x14, ⟨d0, d1, zu⟩⟩, ⟨va, vb, vc, rfl, hs, ht, hu⟩, ?_⟩
  exact ⟨wf_u8 w0, wf_u8 w1, wf_u8 w2, wf_u32 w3, wf_u32 w4, wf_u32 w5, wf_u8 w6, wf_u8 w7, wf_u8 u0, wf_u16 v0, wf_u16 v1, wf_u16 v2, fun z hz => wf_u8 (z1 z hz), wf_u16 b0, wf_u16 b1, wf_u16 b2, fun z hz => wf_u8 (z2 z hz), wf_u32 w11, wf_u16 w12, wf_u16 w13, wf_u16 w14, wf_u16 a0, wf_u16 a1, fun z hz => wf_u8 (z3 z hz)⟩
end Go.Proofs.Ytejgoooanapjbaa
