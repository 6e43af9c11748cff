/- Rows whose elements are told by a relation; rows of one's own, whose block is named. -/
import Derived.Test.YtimjcfaciiimmaaAmDat
import Derived.Test.YtimjcfaciiimmaaAmJoin
set_option linter.unusedSimpArgs false
set_option linter.unusedVariables false
namespace Go.AM
open Go
variable {P : Program} {t tx e : TypeId} {m m' : Mem} {k sz n r : Nat} {v x z : Value} {cs new : List Value}

section
variable {α : Type} {R R' : α → List Value → Prop}
/-- Cells of elements, one behind the other. -/
def RowsOf (R : α → List Value → Prop) : List α → List Value → Prop
  | [], cs => cs = []
  | a :: l, cs => ∃ c1 c2, cs = c1 ++ c2 ∧ R a c1 ∧ RowsOf R l c2
theorem RowsOf.mono (hR : ∀ a c, R a c → R' a c) : ∀ {l : List α} {cs : List Value}, RowsOf R l cs → RowsOf R' l cs
  | [], _, h => h
  | a :: l, _, ⟨c1, c2, h1, h2, h3⟩ => ⟨c1, c2, h1, hR _ _ h2, RowsOf.mono hR h3⟩
theorem RowsOf.length (hR : ∀ a c, R a c → c.length = sz) : ∀ {l : List α} {cs : List Value}, RowsOf R l cs → cs.length = l.length * sz
  | [], _, h => by rw [RowsOf] at h; subst h; simp
  | a :: l, _, ⟨c1, c2, h1, h2, h3⟩ => by
    subst h1
    rw [List.length_append, hR _ _ h2, RowsOf.length hR h3, List.length_cons, Nat.add_mul, Nat.one_mul, Nat.add_comm]
theorem RowsOf.append : ∀ {l k : List α} {cs ds : List Value}, RowsOf R l cs → RowsOf R k ds → RowsOf R (l ++ k) (cs ++ ds)
  | [], k, cs, ds, h, g => by
    rw [RowsOf] at h
    subst h
    exact g
  | a :: l, k, _, ds, ⟨c1, c2, h1, h2, h3⟩, g => by
    subst h1
    exact ⟨c1, c2 ++ ds, by rw [List.append_assoc], h2, RowsOf.append h3 g⟩
theorem RowsOf.one {a : α} {c : List Value} (h : R a c) : RowsOf R [a] c := ⟨c, [], by simp, h, rfl⟩
theorem RowsOf.drop (hR : ∀ a c, R a c → c.length = sz) : ∀ {l : List α} {cs : List Value} (j : Nat), RowsOf R l cs → RowsOf R (l.drop j) (cs.drop (j * sz))
  | l, cs, 0, h => by simpa using h
  | [], cs, j + 1, h => by rw [RowsOf] at h; subst h; simp [RowsOf]
  | a :: l, _, j + 1, ⟨c1, c2, h1, h2, h3⟩ => by
    subst h1
    have h := RowsOf.drop hR j h3
    rw [List.drop_succ_cons, Nat.add_mul, Nat.one_mul, Nat.add_comm, ← List.drop_drop, ← hR _ _ h2, List.drop_left, hR _ _ h2]
    exact h
theorem RowsOf.take (hR : ∀ a c, R a c → c.length = sz) : ∀ {l : List α} {cs : List Value} (j : Nat), RowsOf R l cs → RowsOf R (l.take j) (cs.take (j * sz))
  | l, cs, 0, h => by simp [RowsOf]
  | [], cs, j + 1, h => by rw [RowsOf] at h; subst h; simp [RowsOf]
  | a :: l, _, j + 1, ⟨c1, c2, h1, h2, h3⟩ => by
    subst h1
    have h := RowsOf.take hR j h3
    rw [List.take_succ_cons]
    refine ⟨c1, c2.take (j * sz), ?_, h2, h⟩
    rw [List.take_append, hR _ _ h2, List.take_of_length_le (by rw [hR _ _ h2, Nat.add_mul]; omega)]
    congr 2
    rw [Nat.add_mul]
    omega
theorem RowsOf.at (hR : ∀ a c, R a c → c.length = sz) {l : List α} {cs : List Value} (h : RowsOf R l cs) {j : Nat} (hj : j < l.length) : R l[j] ((cs.drop (j * sz)).take sz) := by
  have h1 := RowsOf.take hR 1 (RowsOf.drop hR j h)
  rw [Nat.one_mul] at h1
  have e : (l.drop j).take 1 = [l[j]] := by
    rw [List.drop_eq_getElem_cons hj, List.take_succ_cons, List.take_zero]
  rw [e] at h1
  obtain ⟨c1, c2, h2, h3, h4⟩ := h1
  rw [RowsOf] at h4
  rw [h2, h4, List.append_nil]
  exact h3
theorem RowsOf.set (hR : ∀ a c, R a c → c.length = sz) {l : List α} {cs c : List Value} (h : RowsOf R l cs) {j : Nat} {a : α} (hj : j < l.length) (hc : R a c) : RowsOf R (l.set j a) (setCells cs (j * sz) c) := by
  have h1 := RowsOf.take hR j h
  have h2 := RowsOf.drop hR (j + 1) h
  have e : l.set j a = l.take j ++ a :: l.drop (j + 1) := by
    rw [List.set_eq_take_append_cons_drop, if_pos hj]
  rw [e]
  have : setCells cs (j * sz) c = cs.take (j * sz) ++ (c ++ cs.drop ((j + 1) * sz)) := by
    simp only [setCells, hR _ _ hc, List.append_assoc, Nat.add_mul, Nat.one_mul]
  rw [this]
  exact h1.append ⟨c, _, rfl, hc, h2⟩
/-- The parts of an element's cells, in a row whose cells are known. -/
theorem drop_take_get {cs c : List Value} {off sz k : Nat} (h : (cs.drop off).take sz = c) (hk : k < c.length) : cs[off + k]? = c[k]? := by
  subst h
  rw [List.length_take] at hk
  rw [List.getElem?_take, if_pos (by omega), List.getElem?_drop]
end

/-- A row of one's own, in block r (or none). -/
def OwnI (r : Nat) (e : TypeId) (sz : Nat) (m : Mem) (v : Value) (n : Nat) (cs : List Value) : Prop :=
  cs.length = n * sz ∧ ((n = 0 ∧ v = .slice none 0 0) ∨ (r < m.next ∧ v = .slice (some ⟨r, 0, none⟩) n sz ∧ m.get r = some (.cells cs e true)))
theorem OwnI.nil : OwnI r e sz m (.slice none 0 0) 0 [] := ⟨by simp, .inl ⟨rfl, rfl⟩⟩
theorem OwnI.made (h : cs.length = n * sz) : OwnI m.next e sz (m.new (.cells cs e true)) (.slice (some ⟨m.next, 0, none⟩) n sz) n cs := ⟨h, .inr ⟨Nat.lt_succ_self _, rfl, new_get _ _⟩⟩
theorem OwnI.keep (h : OwnI r e sz m v n cs) (hn : m.next ≤ m'.next) (hx : r < m.next → m'.get r = m.get r) : OwnI r e sz m' v n cs := by
  obtain ⟨h0, h | ⟨h1, h2, h3⟩⟩ := h
  · exact ⟨h0, .inl h⟩
  · exact ⟨h0, .inr ⟨Nat.lt_of_lt_of_le h1 hn, h2, (hx h1).trans h3⟩⟩
theorem OwnI.keepN (h : OwnI r e sz m v n cs) (hn : m.next ≤ m'.next) (hx : v ≠ .slice none 0 0 → r < m.next → m'.get r = m.get r) : OwnI r e sz m' v n cs := by
  obtain ⟨h0, h | ⟨h1, h2, h3⟩⟩ := h
  · exact ⟨h0, .inl h⟩
  · exact ⟨h0, .inr ⟨Nat.lt_of_lt_of_le h1 hn, h2, (hx (by rw [h2]; simp) h1).trans h3⟩⟩
theorem OwnI.ext (h : OwnI r e sz m v n cs) (hx : Ext m m') : OwnI r e sz m' v n cs := h.keep hx.1 (hx.2 r)
theorem OwnI.toR (h : OwnI r e sz m v n cs) : OwnR 0 e sz m v n cs := by
  obtain ⟨h0, h | ⟨h1, h2, h3⟩⟩ := h
  · exact ⟨h0, .inl h⟩
  · exact ⟨h0, .inr ⟨r, Nat.zero_le _, h1, h2, h3⟩⟩
theorem OwnI.len (h : OwnI r e sz m v n cs) (ht : P.underlying t = some (.slice e)) : opLen P (some t) v = some (.int .i64 n) := h.toR.len ht
theorem OwnI.is (h : OwnI r e sz m v n cs) : ∃ a q, v = .slice a n q := by
  obtain ⟨_, ⟨rfl, rfl⟩ | ⟨_, rfl, _⟩⟩ := h <;> exact ⟨_, _, rfl⟩
theorem OwnI.cell (h : OwnI r e sz m v n cs) : v.cells = #[v] ∧ okVal v = true ∧ okCell v = true ∧ veq v v = true := by
  obtain ⟨a, q, rfl⟩ := h.is
  exact ⟨rfl, rfl, rfl, by simp [veq, veqCell]⟩
theorem OwnI.shows (h : OwnI r e 1 m v n cs) : Shows m v cs := by
  obtain ⟨h0, ⟨rfl, rfl⟩ | ⟨h1, rfl, h3⟩⟩ := h
  · have : cs = [] := List.eq_nil_of_length_eq_zero (by simpa using h0)
    subst this
    exact Shows.nil m
  · rw [Nat.mul_one] at h0
    subst h0
    exact Shows.whole h3
theorem OwnI.row (h : OwnI r e sz m v n cs) (hn : 0 < n) : r < m.next ∧ v = .slice (some ⟨r, 0, none⟩) n sz ∧ m.get r = some (.cells cs e true) := by
  obtain ⟨_, ⟨rfl, _⟩ | h⟩ := h
  · omega
  · exact h
theorem OwnI.index (h : OwnI r e sz m v n cs) (ht : P.underlying t = some (.slice e)) (hs : tsize P e = some sz) {j : Int} {i : Nat} (hi : j = i) (hj : i < n) : opIndexAddr P t v (.int .i64 j) = some (.pointer (some ⟨r, i * sz, none⟩)) := by
  obtain ⟨_, rfl, _⟩ := h.row (by omega)
  subst hi
  simp only [opIndexAddr, ht, hs]
  rw [if_pos (by omega)]
  simp
theorem OwnI.load (h : OwnI r e sz m v n cs) (hs : tsize P e = some sz) (ha : aggOf P e = some true) {i : Nat} (hj : i < n) : opLoad P e (.pointer (some ⟨r, i * sz, none⟩)) m = some (.agg ((cs.drop (i * sz)).take sz).toArray) := by
  obtain ⟨h1, _, h3⟩ := h.row (by omega)
  simp only [opLoad, h3, ha, hs]
  have : i * sz + sz ≤ cs.length := by
    rw [h.1]
    have h := Nat.mul_le_mul_right sz (Nat.succ_le_of_lt hj)
    rw [Nat.succ_mul] at h
    exact h
  rw [if_pos this]
/-- append. -/
theorem OwnI.push {b nn : Nat} (h : OwnI r e sz m v n cs) (ht : P.underlying t = some (.slice e)) (hx : ∃ y, P.underlying tx = some (.slice y)) (hs : tsize P e = some sz) (hs0 : 0 < sz) (hz : tzero P e = some z) (hb : tbytes P e = some b) (hb0 : 0 < b) (hc : z.cells.size = sz) (hzk : zeroOk z = true)
    (ha : ShowsR sz m x nn new) (hn : (n + nn) * b ≤ 140737488355328) :
    ∃ a q m' r', opAppend P [t, tx] [v, x] m = some (.slice a (n + nn) q, m') ∧ OwnI r' e sz m' (.slice a (n + nn) q) (n + nn) (cs ++ new) ∧ (nn = 0 ∧ r' = r ∨ m.next ≤ r' ∧ r' < m'.next) ∧ m.next ≤ m'.next ∧ ∀ j, j < m.next → (j = r → v = .slice none 0 0) → m'.get j = m.get j := by
  obtain ⟨y, hy⟩ := hx
  obtain ⟨a, q, rfl, hsh, hnew⟩ := ha
  obtain ⟨hl, h⟩ := h
  have had : addedBy P (some tx) sz z (.slice a nn q) m = some (nn, new) := by simp only [addedBy, hy, hsh]
  by_cases h0 : nn = 0
  · subst h0
    have : new = [] := List.eq_nil_of_length_eq_zero (by simpa using hnew)
    subst this
    rcases h with ⟨rfl, rfl⟩ | ⟨h1, rfl, h4⟩
    · refine ⟨none, 0, m, r, ?_, ⟨by simpa using hl, .inl ⟨rfl, rfl⟩⟩, .inl ⟨rfl, rfl⟩, Nat.le_refl _, fun _ _ _ => rfl⟩
      simp only [opAppend, ht, hs, hz, hb, hzk, hc, List.head?_cons, had]
      rw [if_pos ⟨trivial, hs0, hb0, trivial⟩]
      simp
    · refine ⟨some ⟨r, 0, none⟩, sz, m, r, ?_, ⟨by simpa using hl, .inr ⟨h1, rfl, by simpa using h4⟩⟩, .inl ⟨rfl, rfl⟩, Nat.le_refl _, fun _ _ _ => rfl⟩
      simp only [opAppend, ht, hs, hz, hb, hzk, hc, List.head?_cons, had]
      rw [if_pos ⟨trivial, hs0, hb0, trivial⟩]
      simp
  · rcases h with ⟨rfl, rfl⟩ | ⟨h1, rfl, h4⟩
    · have hcs : cs = [] := List.eq_nil_of_length_eq_zero (by simpa using hl)
      subst hcs
      refine ⟨some ⟨m.next, 0, none⟩, sz, m.new (.cells new e true), m.next, ?_, ⟨by simpa using hnew, .inr ⟨Nat.lt_succ_self _, by simp, ?_⟩⟩, .inr ⟨Nat.le_refl _, Nat.lt_succ_self _⟩, Nat.le_succ _, fun j hj _ => new_get_ne _ (by omega)⟩
      · simp only [opAppend, ht, hs, hz, hb, hzk, hc, List.head?_cons, had]
        rw [if_pos ⟨trivial, hs0, hb0, trivial⟩, if_neg h0, if_pos (by simpa using hn)]
        simp
      · simp [new_get]
    · refine ⟨some ⟨m.next, 0, none⟩, sz, (m.kill r).new (.cells (cs ++ new) e true), m.next, ?_, ⟨by rw [List.length_append, hl, hnew, Nat.add_mul], .inr ⟨Nat.lt_succ_self _, rfl, ?_⟩⟩, .inr ⟨Nat.le_refl _, Nat.lt_succ_self _⟩, Nat.le_succ _, fun j hj hne => ?_⟩
      · simp only [opAppend, ht, hs, hz, hb, hzk, hc, List.head?_cons, had]
        rw [if_pos ⟨trivial, hs0, hb0, trivial⟩, if_neg h0, if_pos hn, h4]
        simp [hl]
      · have := new_get (m.kill r) (.cells (cs ++ new) e true)
        rw [kill_next] at this
        exact this
      · have hne : j ≠ r := fun h => by have := hne h; simp at this
        rw [new_get_ne _ (by rw [kill_next]; omega), kill_get_ne hne]
/-- One's own row is frozen. -/
theorem OwnI.frz (h : OwnI r e sz m v n cs) : ∃ m', Frz m m' ∧ FRow m' v sz n cs ∧ m'.next = m.next ∧ ∀ j, j ≠ r → m'.get j = m.get j := by
  obtain ⟨h0, ⟨rfl, rfl⟩ | ⟨h1, rfl, h3⟩⟩ := h
  · exact ⟨m, Frz.refl m, ⟨h0, .inl ⟨rfl, .inl rfl⟩⟩, rfl, fun _ _ => rfl⟩
  · exact ⟨m.frz r, frz_frz m r, ⟨h0, .inr ⟨r, 0, cs, e, rfl, h1, frz_get h3, by omega, by rw [List.drop_zero, ← h0, List.take_length]⟩⟩, rfl, fun j hj => frz_get_ne hj⟩
/-- A part of one's own row shows its cells. -/
theorem OwnI.part (h : OwnI r e sz m v n cs) (ht : P.underlying t = some (.slice e)) (hsz : tsize P e = some sz) {lo hi : Option Value} {l k : Nat} (hl : boundOf lo 0 = some l) (hk : boundOf hi n = some k) (h1 : l ≤ k) (h2 : k ≤ n) :
    ∃ a q, opSlice P t v lo hi = some (.slice a (k - l) q) ∧ ShowsR sz m (.slice a (k - l) q) (k - l) ((cs.drop (l * sz)).take ((k - l) * sz)) ∧ ∀ m', m'.get r = m.get r → ShowsR sz m' (.slice a (k - l) q) (k - l) ((cs.drop (l * sz)).take ((k - l) * sz)) := by
  obtain ⟨h0, ⟨rfl, rfl⟩ | ⟨hr, rfl, h4⟩⟩ := h
  · have hcs : cs = [] := List.eq_nil_of_length_eq_zero (by simpa using h0)
    subst hcs
    have hk0 : k = 0 := by omega
    subst hk0
    have hl0 : l = 0 := by omega
    subst hl0
    exact ⟨none, 0, by simp only [opSlice, ht, hl, hk, hsz, Nat.le_refl, and_self, if_true, Nat.sub_self], ⟨_, _, rfl, by simp [shown], by simp⟩, fun m' _ => ⟨_, _, rfl, by simp [shown], by simp⟩⟩
  · have hle : l * sz + (k - l) * sz ≤ n * sz := by
      rw [← Nat.add_mul]
      exact Nat.mul_le_mul_right _ (by omega)
    have sh : ∀ m', m'.get r = m.get r → ShowsR sz m' (.slice (some ⟨r, 0 + l * sz, none⟩) (k - l) sz) (k - l) ((cs.drop (l * sz)).take ((k - l) * sz)) := by
      intro m' hm
      refine ⟨_, _, rfl, ?_, by rw [List.length_take, List.length_drop]; omega⟩
      simp only [shown, hm, h4]
      split
      · rename_i hz; simp [hz]
      · rw [if_pos (by omega), Nat.zero_add]
    exact ⟨_, _, by simp only [opSlice, ht, hl, hk, hsz, h1, h2, and_self, if_true], sh m rfl, sh⟩
/-- An element is cut out of a row: what stands ahead of it and behind, copied behind an empty row. -/
theorem OwnI.cut_out {b j : Nat} {M : Mem} (h : OwnI r e sz M v n cs) (hr : r < M.next) (ht : P.underlying t = some (.slice e)) (hs : tsize P e = some sz) (hs0 : 0 < sz) (hz : tzero P e = some z) (hb : tbytes P e = some b) (hb0 : 0 < b) (hc : z.cells.size = sz) (hzk : zeroOk z = true) (hn : n * b ≤ 140737488355328) (hj : j < n) :
    ∃ a1 q1 a2 q2 a3 q3 m2 a4 q4 m3 r', opSlice P t v none (some (.int .i64 j)) = some (.slice a1 j q1) ∧ opSlice P t v (some (.int .i64 ((j + 1 : Nat) : Int))) none = some (.slice a2 (n - (j + 1)) q2) ∧
      opAppend P [t, t] [.slice (some ⟨M.next, 0, none⟩) 0 sz, .slice a1 j q1] (M.new (.cells [] e true)) = some (.slice a3 j q3, m2) ∧ opAppend P [t, t] [.slice a3 j q3, .slice a2 (n - (j + 1)) q2] m2 = some (.slice a4 (n - 1) q4, m3) ∧
      OwnI r' e sz m3 (.slice a4 (n - 1) q4) (n - 1) (cs.take (j * sz) ++ cs.drop ((j + 1) * sz)) ∧ M.next ≤ r' ∧ r' < m3.next ∧ Ext M m2 ∧ Ext M m3 := by
  obtain ⟨a1, q1, s1, _, p1⟩ := h.part ht hs (lo := none) (hi := some (.int .i64 j)) (l := 0) (k := j) rfl (by simp [boundOf]) (Nat.zero_le _) (by omega)
  obtain ⟨a2, q2, s2, _, p2⟩ := h.part ht hs (lo := some (.int .i64 ((j + 1 : Nat) : Int))) (hi := none) (l := j + 1) (k := n) (by simp only [boundOf]; rw [if_pos (by omega)]; simp) rfl (by omega) (Nat.le_refl _)
  rw [Nat.sub_zero] at s1 p1
  have o0 : OwnI M.next e sz (M.new (.cells [] e true)) (.slice (some ⟨M.next, 0, none⟩) 0 sz) 0 [] := OwnI.made (by simp)
  have hb1 : j * b ≤ n * b := Nat.mul_le_mul_right _ (by omega)
  have hb2 : (n - 1) * b ≤ n * b := Nat.mul_le_mul_right _ (by omega)
  obtain ⟨a3, q3, m2, r2, e1, e2, e3, e4, e5⟩ := o0.push (P := P) (tx := t) ht ⟨_, ht⟩ hs hs0 hz hb hb0 hc hzk (p1 _ (new_get_ne _ (by omega))) (by rw [Nat.zero_add]; omega)
  simp only [new_next, Nat.zero_add, List.nil_append] at e1 e2 e3 e4 e5
  have x2 : Ext M m2 := ⟨by omega, fun k hk => by rw [e5 k (by omega) (by omega), new_get_ne _ (by omega)]⟩
  have hjn : j + (n - (j + 1)) = n - 1 := by omega
  obtain ⟨a4, q4, m3, r3, d1, d2, d3, d4, d5⟩ := e2.push (P := P) (tx := t) ht ⟨_, ht⟩ hs hs0 hz hb hb0 hc hzk (p2 _ (x2.2 r hr)) (by rw [hjn]; omega)
  rw [hjn] at d1 d2
  refine ⟨a1, q1, a2, q2, a3, q3, m2, a4, q4, m3, r3, s1, s2, e1, d1, ?_, by omega, by omega, x2, ⟨by have := x2.1; omega, fun k hk => by rw [d5 k (by have := x2.1; omega) (by omega), x2.2 k hk]⟩⟩
  have : (cs.drop ((j + 1) * sz)).take ((n - (j + 1)) * sz) = cs.drop ((j + 1) * sz) := by
    refine List.take_of_length_le ?_
    rw [List.length_drop, h.1, Nat.sub_mul]
    exact Nat.le_refl _
  rw [this] at d2
  simpa using d2
/-- What is loaded and stored in a block whose cells are known. -/
theorem load_agg {i off sz : Nat} {own : Bool} (hg : m.get i = some (.cells cs e own)) (ha : aggOf P t = some true) (hs : tsize P t = some sz) (h : off + sz ≤ cs.length) : opLoad P t (.pointer (some ⟨i, off, none⟩)) m = some (.agg ((cs.drop off).take sz).toArray) := by
  simp only [opLoad, hg, ha, hs]
  rw [if_pos h]
theorem load_cell {i off : Nat} {own : Bool} {c : Value} (hg : m.get i = some (.cells cs e own)) (ha : aggOf P t = some false) (h : cs[off]? = some c) : opLoad P t (.pointer (some ⟨i, off, none⟩)) m = some c := by
  simp only [opLoad, hg, ha, h]
theorem store_agg {i off : Nat} {c : Array Value} (hg : m.get i = some (.cells cs e true)) (hs : tsize P t = some c.size) (h : off + c.size ≤ cs.length) : opStore P t (.pointer (some ⟨i, off, none⟩)) (.agg c) m = some (m.set i (.cells (setCells cs off c.toList) e true)) := by
  simp only [opStore, hg]
  exact if_pos ⟨hs, rfl, h⟩
end Go.AM
namespace Go.AM
open Go
theorem Ext.frz {m M m' : Mem} (h : Ext m M) (z : Frz M m') (hk : ∀ j, j < m.next → m'.get j = M.get j) : Ext m m' := ⟨by rw [z.1]; exact h.1, fun j hj => (hk j hj).trans (h.2 j hj)⟩
/-- A row that is read: whoever's it is. -/
def Rd (m : Mem) (v : Value) (sz n : Nat) (cs : List Value) : Prop :=
  cs.length = n * sz ∧ ∃ a q, v = .slice a n q ∧ (∀ i off sp, a = some ⟨i, off, sp⟩ → sp = none) ∧ (0 < n → ∃ i off all e own, a = some ⟨i, off, none⟩ ∧ q = sz ∧ i < m.next ∧ m.get i = some (.cells all e own) ∧ off + n * sz ≤ all.length ∧ (all.drop off).take (n * sz) = cs)
section
variable {P : Program} {t e : TypeId} {m m' : Mem} {sz n r : Nat} {v : Value} {cs : List Value}
theorem Rd.ext (h : Rd m v sz n cs) (x : Ext m m') : Rd m' v sz n cs := by
  obtain ⟨h0, a, q, h1, hz, h2⟩ := h
  refine ⟨h0, a, q, h1, hz, fun hn => ?_⟩
  obtain ⟨i, off, all, e, own, g1, g2, g3, g4, g5, g6⟩ := h2 hn
  exact ⟨i, off, all, e, own, g1, g2, Nat.lt_of_lt_of_le g3 x.1, (x.2 i g3).trans g4, g5, g6⟩
theorem FRow.rd (h : FRow m v sz n cs) : Rd m v sz n cs := by
  obtain ⟨a, q, hv⟩ := h.is
  refine ⟨h.1, a, q, hv, fun i off sp ha => ?_, fun hn => ?_⟩
  · obtain ⟨_, ⟨_, h | ⟨_, _, h⟩⟩ | ⟨_, _, _, _, h, _⟩⟩ := h <;> (rw [hv, ha] at h; simp at h)
    · exact h.1.2.2
    · exact h.1.2.2
  obtain ⟨_, ⟨rfl, _⟩ | ⟨i, off, all, e, h1, h2, h3, h4, h5⟩⟩ := h
  · omega
  · rw [hv] at h1
    obtain ⟨rfl, _, rfl⟩ := Value.slice.inj h1
    exact ⟨i, off, all, e, false, rfl, rfl, h2, h3, h4, h5⟩
theorem OwnI.rd (h : OwnI r e sz m v n cs) : Rd m v sz n cs := by
  obtain ⟨a, q, hv⟩ := h.is
  refine ⟨h.1, a, q, hv, fun i off sp ha => ?_, fun hn => ?_⟩
  · obtain ⟨_, ⟨_, h⟩ | ⟨_, h, _⟩⟩ := h <;> (rw [hv, ha] at h; simp at h)
    exact h.1.2.2
  obtain ⟨h1, h2, h3⟩ := h.row hn
  rw [hv] at h2
  obtain ⟨rfl, _, rfl⟩ := Value.slice.inj h2
  exact ⟨r, 0, cs, e, true, rfl, rfl, h1, h3, by rw [h.1]; omega, by rw [List.drop_zero, ← h.1, List.take_length]⟩
theorem Rd.len (h : Rd m v sz n cs) (ht : P.underlying t = some (.slice e)) : opLen P (some t) v = some (.int .i64 n) := by
  obtain ⟨_, a, q, rfl, _⟩ := h
  simp only [opLen, ht]
theorem Rd.showsR (h : Rd m v sz n cs) : ShowsR sz m v n cs := by
  obtain ⟨h0, a, q, rfl, hz, h2⟩ := h
  refine ⟨a, q, rfl, ?_, h0⟩
  by_cases hn : n = 0
  · subst hn
    have : cs = [] := List.eq_nil_of_length_eq_zero (by simpa using h0)
    subst this
    unfold shown
    split
    · rfl
    · rfl
    · rename_i h1 h2
      cases a with
      | none => exact (h1 _ _ rfl).elim
      | some a =>
        obtain ⟨i, off, sp⟩ := a
        cases sp with
        | none => exact (h2 _ _ _ _ rfl).elim
        | some sp => cases hz _ _ _ rfl
  · obtain ⟨i, off, all, e, own, rfl, rfl, g3, g4, g5, g6⟩ := h2 (by omega)
    simp only [shown, g4]
    rw [if_neg hn, if_pos g5, g6]
/-- Element j: where it lies, its cells. -/
theorem Rd.at (h : Rd m v sz n cs) (ht : P.underlying t = some (.slice e)) (hs : tsize P e = some sz) {j : Nat} (hj : j < n) :
    ∃ i o all e' own, opIndexAddr P t v (.int .i64 j) = some (.pointer (some ⟨i, o, none⟩)) ∧ i < m.next ∧ m.get i = some (.cells all e' own) ∧ o + sz ≤ all.length ∧ (all.drop o).take sz = (cs.drop (j * sz)).take sz ∧ ∀ k, k < sz → all[o + k]? = cs[j * sz + k]? := by
  obtain ⟨h0, a, q, rfl, _, h2⟩ := h
  obtain ⟨i, off, all, e', own, rfl, rfl, g3, g4, g5, g6⟩ := h2 (by omega)
  have hle : j * q + q ≤ n * q := by
    have h := Nat.mul_le_mul_right q (Nat.succ_le_of_lt hj)
    rw [Nat.succ_mul] at h
    exact h
  have e1 : (all.drop (off + j * q)).take q = (cs.drop (j * q)).take q := by
    rw [← g6, List.drop_take, List.take_take, List.drop_drop]
    congr 1
    omega
  refine ⟨i, off + j * q, all, e', own, ?_, g3, g4, by omega, e1, fun k hk => ?_⟩
  · simp only [opIndexAddr, ht, hs]
    rw [if_pos (by omega)]
    simp
  · have := congrArg (fun l => l[k]?) e1
    simp only [List.getElem?_take, List.getElem?_drop, if_pos hk] at this
    exact this
end
theorem iteN {α : Sort _} {c : Prop} [Decidable c] {a b : α} (h : ¬ c) : ite c a b = b := if_neg h
theorem readOk_ld {S : Nat → Prop} {env : Env} {t : TypeId} {a : Operand} : readOk S env (.load t a) = match ev1 env a with
    | some (.pointer (some ⟨i, _, _⟩)) => S i
    | _ => True := rfl
theorem readOk_cv {S : Nat → Prop} {env : Env} {t u : TypeId} {a : Operand} : readOk S env (.convert t u a) = match ev1 env a with
    | some (.slice (some ⟨i, _, _⟩) _ _) => S i
    | _ => True := rfl
theorem readB_ld {env : Env} {t : TypeId} {a : Operand} {b : Nat} : readB env (.load t a) b = match ev1 env a with
    | some (.pointer (some ⟨i, _, _⟩)) => b = i
    | _ => False := rfl
theorem readB_cv {env : Env} {t u : TypeId} {a : Operand} {b : Nat} : readB env (.convert t u a) b = match ev1 env a with
    | some (.slice (some ⟨i, _, _⟩) _ _) => b = i
    | _ => False := rfl
theorem or_eq_imp {i j : Nat} {p : Nat → Prop} : (∀ b, b = i ∨ b = j → p b) ↔ p i ∧ p j := ⟨fun h => ⟨h i (.inl rfl), h j (.inr rfl)⟩, fun h b hb => by
  rcases hb with rfl | rfl
  · exact h.1
  · exact h.2⟩
end Go.AM
namespace Go.AM
open Go
theorem bin_sneq {P : Program} {t : TypeId} {x y : ByteArray} : binV P .neq t (.string x) (.string y) = some (.bool (!decide (x = y))) := by
  have : (x.toList == y.toList) = decide (x = y) := by
    rw [Bool.eq_iff_iff]
    simp only [beq_iff_eq, decide_eq_true_eq]
    constructor
    · intro h
      rw [Go.ByteArray.toList_eq, Go.ByteArray.toList_eq] at h
      exact ByteArray.ext (Array.toList_inj.1 h)
    · rintro rfl; rfl
  simp [binV, strBin, this]
theorem bin_bneq {P : Program} {t : TypeId} (h : P.underlying t = some .bool) {a b : Bool} : binV P .neq t (.bool a) (.bool b) = some (.bool (!(a == b))) := by
  simp only [binV, eqCell, h]
end Go.AM
namespace Go.AM
open Go
section
variable {P : Program} {t e : TypeId} {m μ μ' : Mem} {sz n r i : Nat} {pv z : Value} {cs c : List Value}
/-- A row that grows, in a block that is newer than m. -/
def GrowR (e : TypeId) (sz : Nat) (m μ : Mem) (pv : Value) (r n : Nat) (cs : List Value) : Prop := Ext m μ ∧ OwnI r e sz μ pv n cs ∧ m.next ≤ r
theorem GrowR.nil (m : Mem) : GrowR e sz m m (.slice none 0 0) m.next 0 [] := ⟨Ext.refl m, OwnI.nil, Nat.le_refl _⟩
theorem GrowR.ext (h : GrowR e sz m μ pv r n cs) (x : Ext μ μ') : GrowR e sz m μ' pv r n cs := ⟨h.1.trans x, h.2.1.ext x, h.2.2⟩
theorem GrowR.push {b : Nat} {K : Kont} (h : GrowR e sz m μ pv r n cs) (ht : P.underlying t = some (.slice e)) (hs : tsize P e = some sz) (hs0 : 0 < sz) (hz : tzero P e = some z) (hb : tbytes P e = some b) (hb0 : 0 < b) (hc : z.cells.size = sz) (hzk : zeroOk z = true) (hn : (n + 1) * b ≤ 140737488355328) (hcl : c.length = sz) (hi : i = μ.next)
    (hK : ∀ a q m' r', GrowR e sz m m' (.slice a (n + 1) q) r' (n + 1) (cs ++ c) → K.k (.slice a (n + 1) q) m') : @optV (opAppend P [t, t] [pv, .slice (some ⟨i, 0, none⟩) 1 sz] (μ.new (.cells c e true))) K := by
  subst hi
  obtain ⟨x0, o, hr⟩ := h
  have sh : ShowsR sz (μ.new (.cells c e true)) (.slice (some ⟨μ.next, 0, none⟩) 1 sz) 1 c := ⟨_, _, rfl, by simp [shown, new_get, hcl]; exact List.take_of_length_le (by omega), by omega⟩
  obtain ⟨a, q, m', r', e1, e2, e3, e4, e5⟩ := (o.ext (Ext.new μ (.cells c e true))).push (P := P) (t := t) (tx := t) ht ⟨_, ht⟩ hs hs0 hz hb hb0 hc hzk sh hn
  simp only [new_next] at e3 e4 e5
  have hx0 := x0.1
  rw [e1]
  exact hK a q m' r' ⟨⟨by omega, fun j hj => by rw [e5 j (by omega) (by omega), new_get_ne _ (by omega), x0.2 j hj]⟩, e2, by omega⟩
end
end Go.AM
