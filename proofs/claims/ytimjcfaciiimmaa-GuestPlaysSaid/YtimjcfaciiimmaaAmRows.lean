/- Own rows whose elements take several cells. -/
import Derived.Test.YtimjcfaciiimmaaAmOwn
set_option linter.unusedSimpArgs false
set_option linter.unusedVariables false
namespace Go.AM
open Go
variable {P : Program} {t tx e : TypeId} {m m' : Mem} {k sz n : Nat} {v x z : Value} {cs new : List Value}

/-- A row of one's own: n elements of sz cells each. -/
def OwnR (k : Nat) (e : TypeId) (sz : Nat) (m : Mem) (v : Value) (n : Nat) (cs : List Value) : Prop :=
  cs.length = n * sz ∧ ((n = 0 ∧ v = .slice none 0 0) ∨ ∃ i, k ≤ i ∧ i < m.next ∧ v = .slice (some ⟨i, 0, none⟩) n sz ∧ m.get i = some (.cells cs e true))

theorem OwnR.nil : OwnR k e sz m (.slice none 0 0) 0 [] := ⟨by simp, .inl ⟨rfl, rfl⟩⟩
theorem OwnR.keep (h : OwnR k e sz m v n cs) (hx : Ext m m') : OwnR k e sz m' v n cs := by
  obtain ⟨h0, h | ⟨i, h1, h2, h3, h4⟩⟩ := h
  · exact ⟨h0, .inl h⟩
  · exact ⟨h0, .inr ⟨i, h1, Nat.lt_of_lt_of_le h2 hx.1, h3, (hx.2 i h2).trans h4⟩⟩
theorem OwnR.len (h : OwnR k e sz m v n cs) (ht : P.underlying t = some (.slice e)) : opLen P (some t) v = some (.int .i64 n) := by
  obtain ⟨_, ⟨rfl, rfl⟩ | ⟨i, _, _, rfl, _⟩⟩ := h <;> simp only [opLen, ht] <;> rfl
theorem OwnR.under (h : OwnR k e sz m v n cs) : Under m.next v := by
  intro i off sp n' z he
  obtain ⟨_, ⟨_, rfl⟩ | ⟨j, _, hj, rfl, _⟩⟩ := h
  · simp at he
  · simp only [Value.slice.injEq, Option.some.injEq, Addr.mk.injEq] at he
    omega

/-- Element j: its address, and what is loaded. -/
theorem OwnR.at (h : OwnR k e sz m v n cs) (ht : P.underlying t = some (.slice e)) (hs : tsize P e = some sz) (ha : aggOf P e = some true) {j : Nat} (hj : j < n) :
    ∃ i, v = .slice (some ⟨i, 0, none⟩) n sz ∧ k ≤ i ∧ i < m.next ∧ m.get i = some (.cells cs e true) ∧ opIndexAddr P t v (.int .i64 j) = some (.pointer (some ⟨i, j * sz, none⟩)) ∧ opLoad P e (.pointer (some ⟨i, j * sz, none⟩)) m = some (.agg ((cs.drop (j * sz)).take sz).toArray) := by
  obtain ⟨hl, ⟨rfl, _⟩ | ⟨i, h1, h2, rfl, h4⟩⟩ := h
  · omega
  · refine ⟨i, rfl, h1, h2, h4, ?_, ?_⟩
    · simp only [opIndexAddr, ht, hs]
      rw [if_pos (by omega)]
      simp
    · simp only [opLoad, h4, ha, hs]
      have : j * sz + sz ≤ cs.length := by
        rw [hl]
        have h := Nat.mul_le_mul_right sz (Nat.succ_le_of_lt hj)
        rw [Nat.succ_mul] at h
        exact h
      rw [if_pos this]

/-- Cells that are appended: what a row (not of one's own, too) shows. -/
def ShowsR (sz : Nat) (m : Mem) (x : Value) (n : Nat) (new : List Value) : Prop := ∃ a q, x = .slice a n q ∧ shown sz n x m = some new ∧ new.length = n * sz
theorem OwnR.shows (h : OwnR k e sz m v n cs) : ShowsR sz m v n cs := by
  obtain ⟨hl, ⟨rfl, rfl⟩ | ⟨i, _, _, rfl, hg⟩⟩ := h
  · have : cs = [] := List.eq_nil_of_length_eq_zero (by simpa using hl)
    subst this
    exact ⟨none, 0, rfl, rfl, by simp⟩
  · refine ⟨_, _, rfl, ?_, hl⟩
    simp only [shown]
    split
    · rename_i h0
      subst h0
      have : cs = [] := List.eq_nil_of_length_eq_zero (by simpa using hl)
      rw [this]
    · simp [hg, hl]
      rw [← hl]
      exact List.take_length

/-- append. -/
theorem OwnR.push {b nn : Nat} (h : OwnR k e sz m v n cs) (hk : k ≤ m.next) (ht : P.underlying t = some (.slice e)) (hx : ∃ y, P.underlying tx = some (.slice y)) (hs : tsize P e = some sz) (hs0 : 0 < sz) (hz : tzero P e = some z) (hb : tbytes P e = some b) (hb0 : 0 < b) (hc : z.cells.size = sz) (hzk : zeroOk z = true)
    (ha : ShowsR sz m x nn new) (hn : (n + nn) * b ≤ 140737488355328) :
    ∃ w m', opAppend P [t, tx] [v, x] m = some (w, m') ∧ OwnR k e sz m' w (n + nn) (cs ++ new) ∧ (∀ m0 : Mem, m0.next ≤ k → Ext m0 m → Ext m0 m') ∧ m.next ≤ m'.next ∧ (∀ j, j < m.next → (∀ i' off sp n z, v = .slice (some ⟨i', off, sp⟩) n z → i' ≠ j) → m'.get j = m.get j) := by
  obtain ⟨y, hy⟩ := hx
  obtain ⟨a, q, rfl, hsh, hnew⟩ := ha
  obtain ⟨hl, h⟩ := h
  have had : addedBy P (some tx) sz z (.slice a nn q) m = some (nn, new) := by simp only [addedBy, hy, hsh]
  by_cases h0 : nn = 0
  · subst h0
    have : new = [] := List.eq_nil_of_length_eq_zero (by simpa using hnew)
    subst this
    refine ⟨v, m, ?_, ⟨by simpa using hl, by simpa using h⟩, fun m0 _ hm => hm, Nat.le_refl _, fun j _ _ => rfl⟩
    rcases h with ⟨rfl, rfl⟩ | ⟨i, h1, h2, rfl, h4⟩
    · simp only [opAppend, ht, hs, hz, hb, hzk, hc, List.head?_cons, had]
      rw [if_pos ⟨trivial, hs0, hb0, trivial⟩]
      simp
    · simp only [opAppend, ht, hs, hz, hb, hzk, hc, List.head?_cons, had]
      rw [if_pos ⟨trivial, hs0, hb0, trivial⟩]
      simp
  · rcases h with ⟨rfl, rfl⟩ | ⟨i, h1, h2, rfl, h4⟩
    · have hcs : cs = [] := List.eq_nil_of_length_eq_zero (by simpa using hl)
      subst hcs
      refine ⟨.slice (some ⟨m.next, 0, none⟩) nn sz, m.new (.cells new e true), ?_, ⟨by simpa using hnew, .inr ⟨m.next, hk, Nat.lt_succ_self _, by simp, ?_⟩⟩, fun m0 hk2 hm => hm.trans (Ext.new _ _), Nat.le_succ _, fun j hj _ => new_get_ne _ (by omega)⟩
      · simp only [opAppend, ht, hs, hz, hb, hzk, hc, List.head?_cons, had]
        rw [if_pos ⟨trivial, hs0, hb0, trivial⟩, if_neg h0, if_pos (by simpa using hn)]
      · simp [new_get]
    · refine ⟨.slice (some ⟨m.next, 0, none⟩) (n + nn) sz, (m.kill i).new (.cells (cs ++ new) e true), ?_, ⟨by rw [List.length_append, hl, hnew, Nat.add_mul], .inr ⟨m.next, hk, Nat.lt_succ_self _, rfl, ?_⟩⟩, fun m0 hk2 hm => (hm.kill (by omega)).trans (Ext.new _ _), Nat.le_succ _, fun j hj hne => ?_⟩
      · simp only [opAppend, ht, hs, hz, hb, hzk, hc, List.head?_cons, had]
        rw [if_pos ⟨trivial, hs0, hb0, trivial⟩, if_neg h0, if_pos hn, h4]
        simp [hl]
      · have := new_get (m.kill i) (.cells (cs ++ new) e true)
        rw [kill_next] at this
        exact this
      · have : i ≠ j := hne _ _ _ _ _ rfl
        rw [new_get_ne _ (by rw [kill_next]; omega), kill_get_ne (fun h => this h.symm)]
end Go.AM
