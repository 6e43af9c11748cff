/- What is taken out of any bytes: words whose bytes they are, or an error that stays. -/
import Derived.Test.YtejgoooanapjbaaAmWire
set_option linter.unusedSimpArgs false
set_option linter.unusedVariables false
namespace Go.AM.Wire
open Go Go.AM Go.AM.Crc
variable {all : List Int}
/-- What a reader does at one call: where it ends, the bytes of what it tells, whether that is something. -/
def Takes (all : List Int) (s s' : Nat × Int) (out : List Int) (some : Bool) : Prop :=
  s'.1 ≤ all.length ∧ (s'.2 ≠ 0 → some = false ∧ (s.2 ≠ 0 → s'.2 = s.2)) ∧ (s'.2 = 0 → s.2 = 0 ∧ s'.1 = s.1 + out.length ∧ (all.drop s.1).take out.length = out)
theorem fail_ne {e : Int} {s : Nat × Int} (he : e ≠ 0) : (failS e s).2 ≠ 0 ∧ (s.2 ≠ 0 → (failS e s).2 = s.2) := by
  unfold failS
  split
  · rename_i h; exact ⟨he, fun h2 => (h2 h).elim⟩
  · rename_i h; exact ⟨h, fun _ => rfl⟩
theorem drop_two {k : Nat} (h : k + 2 ≤ all.length) : (all.drop k).take 2 = [all.getD k 0, all.getD (k + 1) 0] := by
  have h1 : (all.drop k) = all[k]'(by omega) :: all[k + 1]'(by omega) :: all.drop (k + 2) := by
    rw [List.drop_eq_getElem_cons (by omega), List.drop_eq_getElem_cons (by omega)]
  rw [h1]
  simp only [List.take_succ_cons, List.take_zero, List.getD_eq_getElem?_getD, List.getElem?_eq_getElem (show k < all.length by omega), List.getElem?_eq_getElem (show k + 1 < all.length by omega), Option.getD_some]
theorem word_good {s : Nat × Int} (hb : Bytes all) (hs : s.1 ≤ all.length) : Takes all s (wordS all s).2 (wordB (wordS all s).1) (decide (0 < (wordS all s).1)) := by
  refine ⟨wordS_le hs, ?_⟩
  unfold wordS
  split
  · rename_i h
    have f := fail_ne (e := 3) (s := s) (by decide)
    exact ⟨fun _ => ⟨by simp, f.2⟩, fun h0 => (f.1 h0).elim⟩
  · rename_i h
    have h0 : s.2 = 0 := by
      refine Decidable.byContradiction fun h0 => ?_
      rw [left_err h0] at h; omega
    rw [left_ok h0] at h
    have a := getD_bytes hb s.1
    have b := getD_bytes hb (s.1 + 1)
    refine ⟨fun h1 => (h1 h0).elim, fun _ => ⟨h0, rfl, ?_⟩⟩
    simp only [wordB_length]
    rw [drop_two (by omega), wordB]
    congr 1
    · omega
    · congr 1; omega
theorem within_good {s : Nat × Int} {most : Int} (hb : Bytes all) (hs : s.1 ≤ all.length) : Takes all s (withinS all most s).2 (wordB (withinS all most s).1) (decide (0 < (withinS all most s).1)) ∧ ((withinS all most s).2.2 = 0 → (withinS all most s).1 ≤ most) ∧ ((withinS all most s).2.2 ≠ 0 → (withinS all most s).1 = 0) := by
  have w := word_good hb hs
  unfold withinS
  split
  · rename_i h
    have f := fail_ne (e := 7) (s := (wordS all s).2) (by decide)
    refine ⟨⟨failS_le (wordS_le hs), fun _ => ⟨by simp, fun h0 => ?_⟩, fun h0 => (f.1 h0).elim⟩, fun h0 => (f.1 h0).elim, fun _ => rfl⟩
    have h1 : (wordS all s).2.2 ≠ 0 := fun h2 => h0 (w.2.2 h2).1
    rw [f.2 h1]
    exact (w.2.1 h1).2 h0
  · rename_i h
    refine ⟨w, fun _ => by omega, fun h0 => ?_⟩
    have := (w.2.1 h0).1
    have v := wordS_val (s := s) hb
    simp at this
    omega
theorem take_two {k a b : Nat} {x y : List Int} (hx : x.length = a) (hy : y.length = b) (h1 : (all.drop k).take a = x) (h2 : (all.drop (k + a)).take b = y) : (all.drop k).take (a + b) = x ++ y := by
  subst hx hy
  rw [List.take_add, h1, List.drop_drop, h2]
theorem Takes.two {s s1 s2 : Nat × Int} {x y : List Int} {p q : Bool} (g1 : Takes all s s1 x p) (g2 : Takes all s1 s2 y q) : (s2.2 ≠ 0 → s.2 ≠ 0 → s2.2 = s.2) ∧ (s2.2 = 0 → s.2 = 0 ∧ s2.1 = s.1 + (x ++ y).length ∧ (all.drop s.1).take (x ++ y).length = x ++ y) := by
  constructor
  · intro h h0
    have h1 : s1.2 ≠ 0 := fun h2 => h0 (g1.2.2 h2).1
    rw [(g2.2.1 h).2 h1, (g1.2.1 h1).2 h0]
  · intro h
    obtain ⟨a1, a2, a3⟩ := g2.2.2 h
    obtain ⟨b1, b2, b3⟩ := g1.2.2 a1
    refine ⟨b1, by rw [List.length_append]; omega, ?_⟩
    rw [List.length_append]
    rw [b2] at a3
    exact take_two rfl rfl b3 a3
theorem longB_two {a b : Int} (hb : 0 ≤ b ∧ b < 65536) : longB (a * 65536 + b) = wordB a ++ wordB b := by
  unfold longB
  congr 2
  · omega
  · omega
theorem quadB_two {a b : Int} (hb : 0 ≤ b ∧ b < 4294967296) : quadB (a * 4294967296 + b) = longB a ++ longB b := by
  unfold quadB
  congr 2
  · omega
  · omega
theorem long_good {s : Nat × Int} (hb : Bytes all) (hs : s.1 ≤ all.length) : Takes all s (longS all s).2 (longB (longS all s).1) (decide (0 < (longS all s).1)) := by
  have g1 := word_good hb hs
  have g2 := word_good (s := (wordS all s).2) hb g1.1
  have g := g1.two g2
  have v2 := wordS_val (s := (wordS all s).2) hb
  unfold longS
  simp only
  split
  · rename_i h
    exact ⟨g2.1, fun _ => ⟨by simp, fun h0 => g.1 h h0⟩, fun h0 => (h h0).elim⟩
  · rename_i h
    have h0 : (wordS all (wordS all s).2).2.2 = 0 := Decidable.byContradiction h
    refine ⟨g2.1, fun h1 => (h1 h0).elim, fun _ => ?_⟩
    simp only
    rw [longB_two v2]
    exact g.2 h0
theorem quad_good {s : Nat × Int} (hb : Bytes all) (hs : s.1 ≤ all.length) : Takes all s (quadS all s).2 (quadB (quadS all s).1) (decide (0 < (quadS all s).1)) := by
  have g1 := long_good hb hs
  have g2 := long_good (s := (longS all s).2) hb g1.1
  have g := g1.two g2
  have v2 := longS_val (s := (longS all s).2) hb
  unfold quadS
  simp only
  split
  · rename_i h
    exact ⟨g2.1, fun _ => ⟨by simp, fun h0 => g.1 h h0⟩, fun h0 => (h h0).elim⟩
  · rename_i h
    have h0 : (longS all (longS all s).2).2.2 = 0 := Decidable.byContradiction h
    refine ⟨g2.1, fun h1 => (h1 h0).elim, fun _ => ?_⟩
    simp only
    rw [quadB_two v2]
    exact g.2 h0
theorem quadS_val {s : Nat × Int} (h : Bytes all) : 0 ≤ (quadS all s).1 ∧ (quadS all s).1 < 18446744073709551616 := by
  have a := longS_val (s := s) h
  have b := longS_val (s := (longS all s).2) h
  simp only [quadS]
  split <;> simp only <;> omega
theorem bytes_part {k n : Nat} (h : Bytes all) : Bytes ((all.drop k).take n) := fun b hb => h b (List.mem_of_mem_drop (List.mem_of_mem_take hb))
theorem textS_by {s s1 : Nat × Int} {most : Int} {n k : Nat} (h : withinS all most s = ((n : Int), s1)) (hk : k = n + n % 2) :
    textS all most s = if left all.length s1 < k then ([], failS 3 s1) else if s1.2 ≠ 0 then ([], s1) else if n < k ∧ all.getD (s1.1 + k - 1) 0 ≠ 0 then ([], (s1.1 + k, 4)) else ((all.drop s1.1).take n, (s1.1 + k, 0)) := by
  unfold textS
  simp only [h, Int.toNat_natCast, ← hk]
  by_cases hl : left all.length s1 < k
  · simp only [if_pos hl]
    rw [if_pos (fail_ne (by decide)).1]
  · simp only [if_neg hl]
theorem text_good {s : Nat × Int} {most : Int} (hb : Bytes all) (hs : s.1 ≤ all.length) : Takes all s (textS all most s).2 (textB (textS all most s).1) (decide (¬ strOf (textS all most s).1 = strOf [])) ∧ Bytes (textS all most s).1 ∧ (textS all most s).1.length < 65536 ∧ ((textS all most s).2.2 = 0 → ((textS all most s).1.length : Int) ≤ most) := by
  obtain ⟨g, gm, gz⟩ := within_good (most := most) hb hs
  have gv := withinS_val (s := s) (most := most) hb
  obtain ⟨a, ha⟩ : ∃ a, a = withinS all most s := ⟨_, rfl⟩
  rw [← ha] at g gm gz gv
  obtain ⟨A, s1⟩ := a
  simp only at g gm gz gv
  obtain ⟨n, rfl⟩ : ∃ n : Nat, A = n := ⟨A.toNat, by omega⟩
  obtain ⟨k, hk⟩ : ∃ k, k = n + n % 2 := ⟨_, rfl⟩
  have et := textS_by ha.symm hk
  have nil1 : Bytes ([] : List Int) := by intro b h; simp at h
  by_cases hl : left all.length s1 < k
  · have f := fail_ne (e := 3) (s := s1) (by decide)
    rw [if_pos hl] at et
    rw [et]
    refine ⟨⟨failS_le g.1, fun _ => ⟨by simp, fun h0 => ?_⟩, fun h0 => (f.1 h0).elim⟩, nil1, by simp, fun h0 => (f.1 h0).elim⟩
    have h1 : s1.2 ≠ 0 := fun h2 => h0 (g.2.2 h2).1
    rw [f.2 h1]
    exact (g.2.1 h1).2 h0
  · rw [if_neg hl] at et
    by_cases he : s1.2 = 0
    · rw [if_neg (by exact fun h => h he)] at et
      obtain ⟨a1, a2, a3⟩ := g.2.2 he
      have hl1 := left_ok (n := all.length) he
      have hs1 := g.1
      have hm := gm he
      by_cases hp : n < k ∧ all.getD (s1.1 + k - 1) 0 ≠ 0
      · rw [if_pos hp] at et
        rw [et]
        exact ⟨⟨by simp only; omega, fun _ => ⟨by simp, fun h0 => (h0 a1).elim⟩, fun h0 => by simp at h0⟩, nil1, by simp, fun h0 => by simp at h0⟩
      · rw [if_neg hp] at et
        rw [et]
        have hlen : ((all.drop s1.1).take n).length = n := by rw [List.length_take, List.length_drop]; omega
        refine ⟨⟨by simp only; omega, fun h0 => (h0 rfl).elim, fun _ => ⟨a1, ?_, ?_⟩⟩, bytes_part hb, by rw [hlen]; omega, fun _ => by simp only [hlen]; exact hm⟩
        · have a2' := a2
          rw [wordB_length] at a2'
          simp only [textB_length, hlen]
          omega
        · simp only [textB_length, hlen]
          rw [wordB_length] at a2 a3
          have et : textB ((all.drop s1.1).take n) = wordB n ++ ((all.drop s1.1).take n ++ (if n % 2 = 1 then [0] else [])) := by
            rw [textB, hlen, List.append_assoc]
          rw [et]
          refine take_two (a := 2) (b := n + n % 2) rfl (by rw [List.length_append, hlen]; split <;> simp <;> omega) a3 ?_
          rw [← a2]
          refine take_two (a := n) (b := n % 2) hlen (by split <;> simp <;> omega) rfl ?_
          split
          · rename_i h1
            rw [h1]
            have hz : all.getD (s1.1 + k - 1) 0 = 0 := by
              refine Decidable.byContradiction fun h2 => hp ⟨by omega, h2⟩
            rw [show s1.1 + k - 1 = s1.1 + n by omega] at hz
            rw [List.drop_eq_getElem_cons (by omega), List.take_succ_cons, List.take_zero]
            rw [List.getD_eq_getElem?_getD, List.getElem?_eq_getElem (by omega), Option.getD_some] at hz
            rw [hz]
          · rename_i h1
            rw [show n % 2 = 0 by omega, List.take_zero]
    · rw [if_pos he] at et
      rw [et]
      exact ⟨⟨g.1, fun _ => ⟨by simp, (g.2.1 he).2⟩, fun h0 => (he h0).elim⟩, nil1, by simp, fun h0 => (he h0).elim⟩
end Go.AM.Wire
namespace Go.AM.Wire
open Go Go.AM Go.AM.Crc
/-- A call's bytes. -/
def callB (t n p : Int) (s : List Int) : List Int := wordB t ++ (wordB n ++ (wordB p ++ textB s))
theorem callB_length (t n p : Int) (s : List Int) : (callB t n p s).length = 6 + (2 + (s.length + s.length % 2)) := by
  simp only [callB, List.length_append, wordB_length, textB_length]
  omega
structure CallR where
  t : Int
  n : Int
  p : Int
  args : List Int
/-- A call that is taken. -/
def callS (all : List Int) (s : Nat × Int) : CallR × (Nat × Int) :=
  let a := wordS all s
  let b := wordS all a.2
  let c := wordS all b.2
  let d := textS all 4000 c.2
  if d.2.2 ≠ 0 then (⟨0, 0, 0, []⟩, d.2) else (⟨a.1, b.1, c.1, d.1⟩, d.2)
/-- A value whose row is new (or none). -/
def Fresh (TB : TypeId) (m m' : Mem) (v : Value) (bs : List Int) : Prop := (bs = [] ∧ v = .slice none 0 0) ∨ ∃ a, v = rowV a bs ∧ m.next ≤ a ∧ Brow TB m' a bs
theorem Fresh.shows {TB : TypeId} {m m' M : Mem} {v : Value} {bs : List Int} (h : Fresh TB m m' v bs) (x : Ext m' M) : Shows M v (byteCells bs) := by
  rcases h with ⟨rfl, rfl⟩ | ⟨a, rfl, _, h⟩
  · exact Shows.nil M
  · exact (h.ext x).shows
theorem callS_mid {t n p : Int} {s : List Int} (xs ys : List Int) (hs : s.length ≤ 4000) : callS (xs ++ (callB t n p s ++ ys)) (xs.length, 0) = (⟨t, n, p, s⟩, ((xs ++ callB t n p s).length, 0)) := by
  have e1 : wordS (xs ++ (callB t n p s ++ ys)) (xs.length, 0) = (t, ((xs ++ wordB t).length, 0)) := by
    rw [callB, List.append_assoc]; exact wordS_mid _ _
  have e2 : wordS (xs ++ (callB t n p s ++ ys)) ((xs ++ wordB t).length, 0) = (n, ((xs ++ wordB t ++ wordB n).length, 0)) := by
    have := wordS_mid (x := n) (xs ++ wordB t) (wordB p ++ (textB s ++ ys))
    simp only [callB, List.append_assoc] at this ⊢
    exact this
  have e3 : wordS (xs ++ (callB t n p s ++ ys)) ((xs ++ wordB t ++ wordB n).length, 0) = (p, ((xs ++ wordB t ++ wordB n ++ wordB p).length, 0)) := by
    have := wordS_mid (x := p) (xs ++ wordB t ++ wordB n) (textB s ++ ys)
    simp only [callB, List.append_assoc] at this ⊢
    exact this
  have e4 : textS (xs ++ (callB t n p s ++ ys)) 4000 ((xs ++ wordB t ++ wordB n ++ wordB p).length, 0) = (s, ((xs ++ callB t n p s).length, 0)) := by
    have := textS_mid (s := s) (most := 4000) (xs ++ wordB t ++ wordB n ++ wordB p) ys (by omega)
    simp only [callB, List.append_assoc] at this ⊢
    exact this
  simp only [callS, e1, e2, e3, e4]
  rw [if_neg (by simp)]
end Go.AM.Wire
namespace Go.AM.Wire
open Go Go.AM Go.AM.Crc
/-- An answer's bytes. -/
def ansB (e r : Int) (s : List Int) : List Int := wordB e ++ (wordB r ++ textB s)
theorem ansB_length (e r : Int) (s : List Int) : (ansB e r s).length = 4 + (2 + (s.length + s.length % 2)) := by
  simp only [ansB, List.length_append, wordB_length, textB_length]
  omega
structure AnsR where
  e : Int
  r : Int
  args : List Int
def ansS (all : List Int) (s : Nat × Int) : AnsR × (Nat × Int) :=
  let a := wordS all s
  let b := wordS all a.2
  let d := textS all 4000 b.2
  if d.2.2 ≠ 0 then (⟨0, 0, []⟩, d.2) else (⟨a.1, b.1, d.1⟩, d.2)
theorem ansS_mid {e r : Int} {s : List Int} (xs ys : List Int) (hs : s.length ≤ 4000) : ansS (xs ++ (ansB e r s ++ ys)) (xs.length, 0) = (⟨e, r, s⟩, ((xs ++ ansB e r s).length, 0)) := by
  have e1 : wordS (xs ++ (ansB e r s ++ ys)) (xs.length, 0) = (e, ((xs ++ wordB e).length, 0)) := by
    rw [ansB, List.append_assoc]; exact wordS_mid _ _
  have e2 : wordS (xs ++ (ansB e r s ++ ys)) ((xs ++ wordB e).length, 0) = (r, ((xs ++ wordB e ++ wordB r).length, 0)) := by
    have := wordS_mid (x := r) (xs ++ wordB e) (textB s ++ ys)
    simp only [ansB, List.append_assoc] at this ⊢
    exact this
  have e4 : textS (xs ++ (ansB e r s ++ ys)) 4000 ((xs ++ wordB e ++ wordB r).length, 0) = (s, ((xs ++ ansB e r s).length, 0)) := by
    have := textS_mid (s := s) (most := 4000) (xs ++ wordB e ++ wordB r) ys (by omega)
    simp only [ansB, List.append_assoc] at this ⊢
    exact this
  simp only [ansS, e1, e2, e4]
  rw [if_neg (by simp)]
end Go.AM.Wire
namespace Go.AM.Wire
open Go Go.AM Go.AM.Crc
/-- Rows that are newer than m, one put behind the other. -/
theorem Brow.cat {P : Program} {T TB : TypeId} {m μ μ1 : Mem} {r r1 : Nat} {p q : List Int} (wt : WTy P TB T) (x : Ext m μ) (hr : m.next ≤ r) (b : Brow TB μ r p) (y : Ext μ μ1) (b1 : Brow TB μ1 r1 q) (hl : (p ++ q).length ≤ 140737488355328) :
    ∃ μ2 r2, opAppend P [T, T] [.slice (some ⟨r, 0, none⟩) p.length 1, .slice (some ⟨r1, 0, none⟩) q.length 1] μ1 = some (.slice (some ⟨r2, 0, none⟩) (p ++ q).length 1, μ2) ∧ Brow TB μ2 r2 (p ++ q) ∧ m.next ≤ r2 ∧ Ext m μ2 := by
  obtain ⟨μ2, r2, e, b2, n2, l2, f2⟩ := (b.ext y).push (P := P) (T := T) (new := q) wt (added_bytes wt b1.shows) (by rw [List.length_append] at hl; exact hl)
  have xy := x.trans y
  have := xy.1
  exact ⟨μ2, r2, e, b2, by omega, ⟨by omega, fun j hj => by rw [f2 j (by omega) (by omega), xy.2 j hj]⟩⟩
end Go.AM.Wire
