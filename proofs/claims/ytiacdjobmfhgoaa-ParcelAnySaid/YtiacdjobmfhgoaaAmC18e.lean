/- Any bytes: a parcel whose bytes they are, or an error: the plain law. -/
import Derived.Test.YtiacdjobmfhgoaaAmC18d
set_option linter.unusedSimpArgs false
set_option linter.unusedVariables false
set_option maxRecDepth 100000
namespace Go.Proofs.Ytiacdjobmfhgoaa
open Go Go.AM Go.AM.Crc Go.AM.Wire
theorem take_bad {b : List Int} (h : (takeP b).2 ≠ 0) : (takeP b).1 = zeroP := by
  revert h
  simp only [takeP]
  split
  · exact fun _ => rfl
  · split
    · exact fun _ => rfl
    · split
      · exact fun _ => rfl
      · exact fun h => (h rfl).elim
theorem read_all {all : List Int} (hb : Bytes all) (he : endS all.length (readP all).2 = 0) : paB (readP all).1 = all ∧ Bytes (readP all).1.b ∧ (0 ≤ (readP all).1.l ∧ (readP all).1.l < 4294967296) := by
  have g1 := word_good (s := (0, 0)) hb (Nat.zero_le _)
  have g2 := long_good (s := (wordS all (0, 0)).2) hb g1.1
  have g3 := word_good (s := (longS all (wordS all (0, 0)).2).2) hb g2.1
  have g4 := word_good (s := (wordS all (longS all (wordS all (0, 0)).2).2).2) hb g3.1
  obtain ⟨g5, tb, _, _⟩ := text_good (s := (wordS all (wordS all (longS all (wordS all (0, 0)).2).2).2).2) (most := 48) hb g4.1
  have lv := longS_val (s := (wordS all (0, 0)).2) hb
  simp only [readP] at he ⊢
  refine ⟨?_, tb, lv⟩
  simp only [paB]
  generalize textS all 48 (wordS all (wordS all (longS all (wordS all (0, 0)).2).2).2).2 = T at *
  generalize wordS all (wordS all (longS all (wordS all (0, 0)).2).2).2 = N at *
  generalize wordS all (longS all (wordS all (0, 0)).2).2 = Q at *
  generalize longS all (wordS all (0, 0)).2 = L at *
  generalize wordS all (0, 0) = W at *
  have hT : T.2.2 = 0 ∧ T.2.1 = all.length := by
    unfold endS at he
    split at he
    · simp at he
    · rename_i h
      have := g5.1
      exact ⟨he, by omega⟩
  obtain ⟨a1, a2, a3⟩ := g5.2.2 hT.1
  obtain ⟨b1, b2, b3⟩ := g4.2.2 a1
  obtain ⟨c1, c2, c3⟩ := g3.2.2 b1
  obtain ⟨d1, d2, d3⟩ := g2.2.2 c1
  obtain ⟨e1, e2, e3⟩ := g1.2.2 d1
  simp only at e2 e3
  rw [b2] at a3
  have h45 := take_two rfl rfl b3 a3
  rw [c2, ← List.length_append] at h45
  have h345 := take_two rfl rfl c3 h45
  rw [d2, ← List.length_append] at h345
  have h2345 := take_two rfl rfl d3 h345
  rw [e2, ← List.length_append] at h2345
  have h := take_two rfl rfl e3 h2345
  rw [List.drop_zero, List.take_of_length_le (by simp only [List.length_append]; omega)] at h
  exact h.symm
theorem take_any {b : List Int} (hb : Bytes b) (h : (takeP b).2 = 0) : pcheck (takeP b).1 = 0 ∧ Bytes (takeP b).1.b ∧ (0 ≤ (takeP b).1.l ∧ (takeP b).1.l < 4294967296) ∧ paS (takeP b).1 = b := by
  have hall : Bytes (b.take (b.length - 4)) := fun x hx => hb x (List.mem_of_mem_take hx)
  have ra := read_all hall
  cases hr : rightB b with
  | false => rw [takeP, if_pos hr] at h; simp at h
  | true =>
    have et : takeP b = if endS (b.take (b.length - 4)).length (readP (b.take (b.length - 4))).2 ≠ 0 then (zeroP, endS (b.take (b.length - 4)).length (readP (b.take (b.length - 4))).2) else if pcheck (readP (b.take (b.length - 4))).1 ≠ 0 then (zeroP, pcheck (readP (b.take (b.length - 4))).1) else ((readP (b.take (b.length - 4))).1, 0) := by rw [takeP, if_neg (by rw [hr]; simp)]
    by_cases he : endS (b.take (b.length - 4)).length (readP (b.take (b.length - 4))).2 = 0
    · rw [if_neg (by exact fun h => h he)] at et
      by_cases hc : pcheck (readP (b.take (b.length - 4))).1 = 0
      · rw [if_neg (by exact fun h => h hc)] at et
        obtain ⟨r1, r2, r3⟩ := ra he
        rw [et]
        refine ⟨hc, r2, r3, ?_⟩
        unfold rightB at hr
        split at hr
        · cases hr
        · have bd : Bytes (b.drop (b.length - 4)) := fun x hx => hb x (List.mem_of_mem_drop hx)
          have := strOf_inj bd (four_bytes _) (by simpa using hr)
          rw [paS, r1, ← this, List.take_append_drop]
      · rw [if_pos hc] at et
        rw [et] at h
        exact (hc h).elim
    · rw [if_pos he] at et
      rw [et] at h
      exact (he h).elim
end Go.Proofs.Ytiacdjobmfhgoaa
