/- Frozen rows: data that nobody writes any more; they stand whatever runs. -/
import Derived.Test.YtimjcfaciiimmaaAmPz
import Derived.Test.YtimjcfaciiimmaaAmOwn
import Derived.Test.YtimjcfaciiimmaaAmRows
set_option linter.unusedSimpArgs false
set_option linter.unusedVariables false
namespace Go.AM
open Go
variable {P : Program} {t tx e : TypeId} {m m' : Mem} {k sz n : Nat} {v x z : Value} {cs new : List Value}

theorem Ext.pz (h : Ext m m') : Pz m m' := ⟨h.1, fun i _ _ hi g => (h.2 i hi).trans g⟩

/-- A frozen row: n elements of sz cells each. -/
def FRow (m : Mem) (v : Value) (sz n : Nat) (cs : List Value) : Prop :=
  cs.length = n * sz ∧ ((n = 0 ∧ (v = .slice none 0 0 ∨ ∃ i off, v = .slice (some ⟨i, off, none⟩) 0 sz)) ∨
    ∃ i off all e, v = .slice (some ⟨i, off, none⟩) n sz ∧ i < m.next ∧ m.get i = some (.cells all e false) ∧ off + n * sz ≤ all.length ∧ (all.drop off).take (n * sz) = cs)

theorem FRow.nil : FRow m (.slice none 0 0) sz 0 [] := ⟨by simp, .inl ⟨rfl, .inl rfl⟩⟩
theorem FRow.empty {i off : Nat} : FRow m (.slice (some ⟨i, off, none⟩) 0 sz) sz 0 [] := ⟨by simp, .inl ⟨rfl, .inr ⟨i, off, rfl⟩⟩⟩
theorem FRow.pz (h : FRow m v sz n cs) (hp : Pz m m') : FRow m' v sz n cs := by
  obtain ⟨h0, h | ⟨i, off, all, e, h1, h2, h3, h4, h5⟩⟩ := h
  · exact ⟨h0, .inl h⟩
  · exact ⟨h0, .inr ⟨i, off, all, e, h1, Nat.lt_of_lt_of_le h2 hp.1, hp.2 _ _ _ h2 h3, h4, h5⟩⟩
theorem FRow.len (h : FRow m v sz n cs) (ht : P.underlying t = some (.slice e)) : opLen P (some t) v = some (.int .i64 n) := by
  obtain ⟨_, ⟨rfl, rfl | ⟨i, off, rfl⟩⟩ | ⟨i, off, all, e', rfl, _⟩⟩ := h <;> simp only [opLen, ht] <;> rfl
theorem FRow.is (h : FRow m v sz n cs) : ∃ a q, v = .slice a n q := by
  obtain ⟨_, ⟨rfl, rfl | ⟨i, off, rfl⟩⟩ | ⟨i, off, all, e', rfl, _⟩⟩ := h <;> exact ⟨_, _, rfl⟩
theorem FRow.cell (h : FRow m v sz n cs) : v.cells = #[v] ∧ okVal v = true ∧ okCell v = true ∧ veq v v = true := by
  obtain ⟨a, q, rfl⟩ := h.is
  exact ⟨rfl, rfl, rfl, by simp [veq, veqCell]⟩
theorem FRow.under (h : FRow m v sz n cs) (hn : n ≠ 0) : Under m.next v := by
  intro i off sp n' z he
  obtain ⟨_, ⟨rfl, _⟩ | ⟨i', off', all, e', rfl, h2, _⟩⟩ := h
  · exact (hn rfl).elim
  · simp only [Value.slice.injEq, Option.some.injEq, Addr.mk.injEq] at he
    omega
theorem FRow.shows (h : FRow m v 1 n cs) : Shows m v cs := by
  obtain ⟨h0, ⟨rfl, h⟩ | ⟨i, off, all, e', rfl, h2, h3, h4, h5⟩⟩ := h
  · have : cs = [] := List.eq_nil_of_length_eq_zero (by simpa using h0)
    subst this
    rcases h with rfl | ⟨i, off, rfl⟩
    · exact Shows.nil m
    · exact Shows.nil_of m
  · rw [Nat.mul_one] at h0
    refine ⟨_, 1, by rw [h0], ?_, fun _ _ _ _ => rfl⟩
    simp only [shown, h3, Nat.mul_one]
    split
    · rename_i hz
      rw [List.eq_nil_of_length_eq_zero hz]
    · rw [h0, if_pos (by omega)]
      rw [Nat.mul_one] at h5
      rw [h5]
theorem FRow.showsR (h : FRow m v sz n cs) : ShowsR sz m v n cs := by
  obtain ⟨h0, ⟨rfl, h⟩ | ⟨i, off, all, e', rfl, h2, h3, h4, h5⟩⟩ := h
  · have : cs = [] := List.eq_nil_of_length_eq_zero (by simpa using h0)
    subst this
    rcases h with rfl | ⟨i, off, rfl⟩
    · exact ⟨_, _, rfl, rfl, by simp⟩
    · exact ⟨_, _, rfl, by simp [shown], by simp⟩
  · refine ⟨_, _, rfl, ?_, h0⟩
    simp only [shown, h3]
    by_cases hz : n = 0
    · subst hz
      rw [if_pos rfl]
      have : cs = [] := List.eq_nil_of_length_eq_zero (by simpa using h0)
      rw [this]
    · rw [if_neg hz, if_pos h4, h5]
/-- The cells of element j. -/
theorem FRow.at (h : FRow m v sz n cs) (ht : P.underlying t = some (.slice e)) (hs : tsize P e = some sz) (ha : aggOf P e = some true) {j : Nat} (hj : j < n) :
    ∃ p, opIndexAddr P t v (.int .i64 j) = some (.pointer (some p)) ∧ opLoad P e (.pointer (some p)) m = some (.agg ((cs.drop (j * sz)).take sz).toArray) ∧ ∀ m', Pz m m' → opLoad P e (.pointer (some p)) m' = some (.agg ((cs.drop (j * sz)).take sz).toArray) := by
  have key : ∀ m', Pz m m' → ∃ i off all e', v = .slice (some ⟨i, off, none⟩) n sz ∧ m'.get i = some (.cells all e' false) ∧ off + n * sz ≤ all.length ∧ (all.drop off).take (n * sz) = cs := by
    intro m' hp
    obtain ⟨h0, ⟨rfl, _⟩ | ⟨i, off, all, e', h1, h2, h3, h4, h5⟩⟩ := h
    · omega
    · exact ⟨i, off, all, e', h1, hp.2 _ _ _ h2 h3, h4, h5⟩
  obtain ⟨i, off, all, e', rfl, _⟩ := key m (Pz.refl m)
  have ld : ∀ m', Pz m m' → opLoad P e (.pointer (some ⟨i, off + j * sz, none⟩)) m' = some (.agg ((cs.drop (j * sz)).take sz).toArray) := by
    intro m' hp
    obtain ⟨i', off', all', e'', he, h3, h4, h5⟩ := key m' hp
    simp only [Value.slice.injEq, Option.some.injEq, Addr.mk.injEq] at he
    obtain ⟨⟨rfl, rfl, _⟩, _⟩ := he
    have hle : j * sz + sz ≤ n * sz := by
      have h := Nat.mul_le_mul_right sz (Nat.succ_le_of_lt hj)
      rw [Nat.succ_mul] at h
      exact h
    simp only [opLoad, h3, ha, hs]
    rw [if_pos (by omega)]
    congr 3
    rw [← h5, List.drop_take, List.take_take, List.drop_drop]
    congr 1
    omega
  refine ⟨⟨i, off + j * sz, none⟩, ?_, ld m (Pz.refl m), ld⟩
  simp only [opIndexAddr, ht, hs]
  rw [if_pos (by omega)]
  simp
/-- .. whose elements are one cell each. -/
theorem FRow.at1 (h : FRow m v 1 n cs) (ht : P.underlying t = some (.slice e)) (hs : tsize P e = some 1) (ha : aggOf P e = some false) {j : Nat} (hj : j < n) :
    ∃ p c, cs[j]? = some c ∧ opIndexAddr P t v (.int .i64 j) = some (.pointer (some p)) ∧ opLoad P e (.pointer (some p)) m = some c ∧ ∀ m', Pz m m' → opLoad P e (.pointer (some p)) m' = some c := by
  have hl : cs.length = n := by have := h.1; omega
  have key : ∀ m', Pz m m' → ∃ i off all e', v = .slice (some ⟨i, off, none⟩) n 1 ∧ m'.get i = some (.cells all e' false) ∧ off + n ≤ all.length ∧ (all.drop off).take n = cs := by
    intro m' hp
    obtain ⟨h0, ⟨rfl, _⟩ | ⟨i, off, all, e', h1, h2, h3, h4, h5⟩⟩ := h
    · omega
    · rw [Nat.mul_one] at h4 h5
      exact ⟨i, off, all, e', h1, hp.2 _ _ _ h2 h3, h4, h5⟩
  obtain ⟨i, off, all, e', rfl, _⟩ := key m (Pz.refl m)
  have ld : ∀ m', Pz m m' → opLoad P e (.pointer (some ⟨i, off + j, none⟩)) m' = some (cs[j]'(by omega)) := by
    intro m' hp
    obtain ⟨i', off', all', e'', he, h3, h4, h5⟩ := key m' hp
    simp only [Value.slice.injEq, Option.some.injEq, Addr.mk.injEq] at he
    obtain ⟨⟨rfl, rfl, _⟩, _⟩ := he
    simp only [opLoad, h3, ha]
    rw [List.getElem?_eq_getElem (by omega)]
    congr 1
    simp only [← h5, List.getElem_take, List.getElem_drop]
  refine ⟨⟨i, off + j, none⟩, cs[j]'(by omega), List.getElem?_eq_getElem (by omega), ?_, ld m (Pz.refl m), ld⟩
  simp only [opIndexAddr, ht, hs]
  rw [if_pos (by omega)]
  simp
/-- A part of a frozen row. -/
theorem FRow.cut (h : FRow m v sz n cs) (ht : P.underlying t = some (.slice e)) (hsz : tsize P e = some sz) {lo hi : Option Value} {l k : Nat} (hl : boundOf lo 0 = some l) (hk : boundOf hi n = some k) (h1 : l ≤ k) (h2 : k ≤ n) :
    ∃ w, opSlice P t v lo hi = some w ∧ FRow m w sz (k - l) ((cs.drop (l * sz)).take ((k - l) * sz)) := by
  obtain ⟨h0, ⟨rfl, h⟩ | ⟨i, off, all, e', rfl, hi2, h3, h4, h5⟩⟩ := h
  · have : cs = [] := List.eq_nil_of_length_eq_zero (by simpa using h0)
    subst this
    have hk0 : k = 0 := by omega
    subst hk0
    have hl0 : l = 0 := by omega
    subst hl0
    rcases h with rfl | ⟨i, off, rfl⟩
    · exact ⟨.slice none 0 0, by simp only [opSlice, ht, hl, hk, hsz, Nat.le_refl, and_self, if_true], by simpa using FRow.nil⟩
    · refine ⟨.slice (some ⟨i, off, none⟩) 0 sz, ?_, by simpa using FRow.empty⟩
      simp [opSlice, ht, hl, hk, hsz]
  · have hle : l * sz + (k - l) * sz ≤ n * sz := by
      rw [← Nat.add_mul]
      exact Nat.mul_le_mul_right _ (by omega)
    refine ⟨.slice (some ⟨i, off + l * sz, none⟩) (k - l) sz, ?_, by rw [List.length_take, List.length_drop]; omega, ?_⟩
    · simp only [opSlice, ht, hl, hk, hsz, h1, h2, and_self, if_true]
    · right
      refine ⟨i, _, all, e', rfl, hi2, h3, by omega, ?_⟩
      rw [← h5, List.drop_take, List.take_take, List.drop_drop]
      congr 1
      omega

/-- A block is frozen. -/
def frzB (b : Option Blk) : Option Blk :=
  match b with
  | some (.cells cs e _) => some (.cells cs e false)
  | o => o
def Mem.frz (m : Mem) (i : Nat) : Mem := { get := fun j => if j = i then frzB (m.get i) else m.get j, next := m.next }
theorem frz_frz (m : Mem) (i : Nat) : Frz m (m.frz i) := by
  refine ⟨rfl, fun j => ?_⟩
  simp only [Mem.frz]
  split
  · rename_i h
    subst h
    cases hg : m.get j with
    | none => exact .inl rfl
    | some b =>
      cases b with
      | map es => exact .inl rfl
      | cells cs e o =>
        cases o with
        | true => exact .inr ⟨cs, e, rfl, rfl⟩
        | false => exact .inl rfl
  · exact .inl rfl
theorem frz_next (m : Mem) (i : Nat) : (m.frz i).next = m.next := rfl
theorem frz_get_ne {i j : Nat} (h : j ≠ i) : (m.frz i).get j = m.get j := by simp [Mem.frz, h]
theorem frz_get {i : Nat} {o : Bool} (h : m.get i = some (.cells cs e o)) : (m.frz i).get i = some (.cells cs e false) := by simp [Mem.frz, frzB, h]

/-- One's own row is frozen. -/
theorem OwnR.frz (h : OwnR k e sz m v n cs) : ∃ m', Frz m m' ∧ FRow m' v sz n cs ∧ m'.next = m.next ∧ ∀ j, (∀ i off sp n z, v = .slice (some ⟨i, off, sp⟩) n z → j ≠ i) → m'.get j = m.get j := by
  obtain ⟨h0, ⟨rfl, rfl⟩ | ⟨i, h1, h2, rfl, h4⟩⟩ := h
  · exact ⟨m, Frz.refl m, ⟨h0, .inl ⟨rfl, .inl rfl⟩⟩, rfl, fun _ _ => rfl⟩
  · exact ⟨m.frz i, frz_frz m i, ⟨h0, .inr ⟨i, 0, cs, e, rfl, h2, frz_get h4, by omega, by rw [List.drop_zero, ← h0, List.take_length]⟩⟩, rfl, fun j hj => frz_get_ne (hj _ _ _ _ _ rfl)⟩
theorem OwnS.toR (h : OwnS k e m v cs) : OwnR k e 1 m v cs.length cs := by
  refine ⟨by omega, ?_⟩
  rcases h with ⟨rfl, rfl⟩ | ⟨i, h1, h2, h3, h4⟩
  · exact .inl ⟨rfl, rfl⟩
  · exact .inr ⟨i, h1, h2, h3, h4⟩
end Go.AM
