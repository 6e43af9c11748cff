/- Data of slices whose elements are structs. -/
import Derived.Test.YtimjcfaciiimmaaAmArgs3
set_option linter.unusedSimpArgs false
set_option linter.unusedVariables false
namespace Go.AM
open Go
section
variable {H : Type} {P : Program} {m : Mem}

theorem liesC_many {e : TypeId} {sz : Nat} : ∀ {es : List (DataW H)} {q : Nat}, (∀ d ∈ es, ∀ cs, LiesC P m e d cs → cs.length = sz) → Holds m q (amMany P e es q).2 →
    (amMany P e es q).1.length = es.length * sz ∧ ∀ (j : Nat) (d : DataW H), es[j]? = some d → LiesC P m e d (((amMany P e es q).1.drop (j * sz)).take sz)
  | [], q, _, _ => ⟨by simp [amMany], fun j d h => by simp at h⟩
  | x :: r, q, hs, hm => by
    simp only [amMany] at hm ⊢
    have h1 : LiesC P m e x (amOne P e x q).1 := ⟨q, rfl, hm.left⟩
    have l1 := hs x (by simp) _ h1
    obtain ⟨l2, k2⟩ := liesC_many (es := r) (fun d hd => hs d (by simp [hd])) hm.right
    refine ⟨by rw [List.length_append, l1, l2, List.length_cons, Nat.add_mul, Nat.one_mul, Nat.add_comm], fun j d hj => ?_⟩
    cases j with
    | zero =>
      simp only [List.getElem?_cons_zero, Option.some.injEq] at hj
      subst hj
      rw [Nat.zero_mul, List.drop_zero, ← l1, List.take_left]
      exact h1
    | succ j =>
      simp only [List.getElem?_cons_succ] at hj
      have := k2 j d hj
      rw [Nat.add_mul, Nat.one_mul, Nat.add_comm (j * sz) sz, ← List.drop_drop, ← l1, List.drop_left, l1]
      exact this

/-- A slice of structs: each element's cells. -/
theorem lies_rows {k sz : Nat} {t e : TypeId} {d : DataW H} {v : Value} (ht : P.underlying t = some (.slice e)) (he : esz P e = sz) (hs : ∀ d : DataW H, IsD P k e d → ∀ cs, LiesC P m e d cs → cs.length = sz) (hd : IsD P (k + 1) t d) (h : Lies P m t d v) :
    (v = .slice none 0 0) ∨ ∃ (q : Nat) (es : List (DataW H)), v = .slice (some ⟨q, 0, none⟩) es.length sz ∧ es.length * P.bytesOf e ≤ reachBytes ∧ q < m.next ∧ (es ≠ [] → ∃ cells, m.get q = some (.cells cells e false) ∧ cells.length = es.length * sz ∧
      ∀ (j : Nat) (d : DataW H), es[j]? = some d → IsD P k e d ∧ LiesC P m e d ((cells.drop (j * sz)).take sz)) := by
  obtain ⟨q, rfl, hm⟩ := h
  simp only [IsD, ht] at hd
  have hval : ∀ x : Value, valOf P t [x] = x := fun x => by simp only [valOf, ht, List.headD_cons]
  rcases hd with rfl | ⟨es, sp, rfl, hw, hes⟩
  · left
    simp only [amOne, hval]
  · right
    simp only [amOne, ht, hval, he] at hm ⊢
    refine ⟨q, es, rfl, hw, by have := hm.1; simp only [List.length_cons] at this; omega, fun hne => ?_⟩
    have h0 := hm.2 0 (by simp)
    have hemp : es.isEmpty = false := by cases es <;> simp_all
    simp only [Nat.add_zero, hemp, Bool.false_eq_true, if_false, List.getElem?_cons_zero, Option.join_some] at h0
    have hr : Holds m (q + 1) (amMany P e es (q + 1)).2 := by
      have := Holds.right (a := [if es.isEmpty then none else some (Blk.cells (amMany P e es (q + 1)).1 e false)]) (b := (amMany P e es (q + 1)).2) hm
      simpa using this
    obtain ⟨l, k'⟩ := liesC_many (sz := sz) (fun d hd => hs d (hes d hd)) hr
    exact ⟨_, h0, l, fun j d hj => ⟨hes d (List.mem_of_getElem? hj), k' j d hj⟩⟩

/-- Element j of such a slice. -/
theorem rows_at {t e : TypeId} {q n sz j : Nat} {cells : List Value} {own : Bool} (ht : P.underlying t = some (.slice e)) (hs : tsize P e = some sz) (ha : aggOf P e = some true) (hg : m.get q = some (.cells cells e own)) (hl : cells.length = n * sz) (hj : j < n) :
    opIndexAddr P t (.slice (some ⟨q, 0, none⟩) n sz) (.int .i64 j) = some (.pointer (some ⟨q, j * sz, none⟩)) ∧ opLoad P e (.pointer (some ⟨q, j * sz, none⟩)) m = some (.agg ((cells.drop (j * sz)).take sz).toArray) := by
  constructor
  · simp only [opIndexAddr, ht, hs]
    rw [if_pos (by omega)]
    simp
  · simp only [opLoad, hg, ha, hs]
    have : j * sz + sz ≤ cells.length := by
      rw [hl]
      have h := Nat.mul_le_mul_right sz (Nat.succ_le_of_lt hj)
      rw [Nat.succ_mul] at h
      exact h
    rw [if_pos this]
end
end Go.AM
