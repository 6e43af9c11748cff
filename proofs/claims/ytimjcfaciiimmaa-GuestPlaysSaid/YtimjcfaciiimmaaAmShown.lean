/- Rows of cells that slices show: reading, cutting, frames. -/
import Derived.Test.YtimjcfaciiimmaaAmSimps
set_option linter.unusedSimpArgs false
set_option linter.unusedVariables false
namespace Go.AM
open Go
variable {P : Program} {t e : TypeId} {m m' : Mem} {a : Option Addr} {n z : Nat} {cs : List Value}

theorem oneOf_one (v : Value) : oneOf [v] = v := rfl

theorem bin_beql {c d : Bool} (h : P.underlying t = some .bool) : binV P .eql t (.bool c) (.bool d) = some (.bool (c == d)) := by
  simp only [binV, eqCell, h]

theorem wrap_i64 {n : Int} (h0 : -2 ^ 63 ≤ n) (h1 : n < 2 ^ 63) : IntKind.i64.wrap n = n := by
  simp [IntKind.wrap, IntKind.signed, IntKind.bits]
  omega
theorem wrap_u8 {n : Int} (h0 : 0 ≤ n) (h1 : n < 256) : IntKind.u8.wrap n = n := by
  simp [IntKind.wrap, IntKind.signed, IntKind.bits]
  omega
theorem wrap_u32 {n : Int} (h0 : 0 ≤ n) (h1 : n < 2 ^ 32) : IntKind.u32.wrap n = n := by
  simp [IntKind.wrap, IntKind.signed, IntKind.bits]
  omega

/-- What stood stands. -/
def Ext (m m' : Mem) : Prop := m.next ≤ m'.next ∧ ∀ i, i < m.next → m'.get i = m.get i
theorem Ext.refl (m : Mem) : Ext m m := ⟨Nat.le_refl _, fun _ _ => rfl⟩
theorem Ext.trans {a b c : Mem} (h : Ext a b) (k : Ext b c) : Ext a c := ⟨Nat.le_trans h.1 k.1, fun i hi => (k.2 i (Nat.lt_of_lt_of_le hi h.1)).trans (h.2 i hi)⟩
theorem Ext.new (m : Mem) (b : Blk) : Ext m (m.new b) := ⟨Nat.le_succ _, fun i hi => by simp only [Mem.new]; rw [if_neg (by omega)]⟩
theorem new_get (m : Mem) (b : Blk) : (m.new b).get m.next = some b := by simp [Mem.new]
theorem new_next (m : Mem) (b : Blk) : (m.new b).next = m.next + 1 := rfl
theorem new_get_ne {i : Nat} (b : Blk) (h : i ≠ m.next) : (m.new b).get i = m.get i := by simp [Mem.new, h]
theorem set_get (m : Mem) (i : Nat) (b : Blk) : (m.set i b).get i = some b := by simp [Mem.set]
theorem set_get_ne {i j : Nat} (b : Blk) (h : j ≠ i) : (m.set i b).get j = m.get j := by simp [Mem.set, h]
theorem new_get_if (m : Mem) (b : Blk) (j : Nat) : (m.new b).get j = if j = m.next then some b else m.get j := rfl
theorem set_get_if (m : Mem) (i : Nat) (b : Blk) (j : Nat) : (m.set i b).get j = if j = i then some b else m.get j := rfl
theorem new3_0 (m : Mem) (a b c : Blk) : (((m.new a).new b).new c).get m.next = some a := by
  rw [new_get_if, if_neg (by simp only [new_next]; omega), new_get_if, if_neg (by simp only [new_next]; omega), new_get]
theorem new3_1 (m : Mem) (a b c : Blk) : (((m.new a).new b).new c).get (m.next + 1) = some b := by
  rw [new_get_if, if_neg (by simp only [new_next]; omega)]
  exact new_get (m.new a) b
theorem new3_2 (m : Mem) (a b c : Blk) : (((m.new a).new b).new c).get (m.next + 2) = some c := new_get ((m.new a).new b) c
theorem new3_ext (m : Mem) (a b c : Blk) : Ext m (((m.new a).new b).new c) := ((Ext.new _ _).trans (Ext.new _ _)).trans (Ext.new _ _)
theorem new3_next (m : Mem) (a b c : Blk) : (((m.new a).new b).new c).next = m.next + 3 := rfl
theorem beq_tt : (true == true) = true := rfl
theorem beq_tf : (true == false) = false := rfl
theorem beq_ft : (false == true) = false := rfl
theorem beq_ff : (false == false) = true := rfl
theorem self_succ (n k : Nat) : (n = n + (k + 1)) = False := by simp
theorem succ_self (n k : Nat) : (n + (k + 1) = n) = False := by simp
theorem set_next (m : Mem) (i : Nat) (b : Blk) : (m.set i b).next = m.next := rfl
theorem kill_next (m : Mem) (i : Nat) : (m.kill i).next = m.next := rfl
theorem kill_get_ne {i j : Nat} (h : j ≠ i) : (m.kill i).get j = m.get j := by simp [Mem.kill, h]
/-- Setting or ending a block that is newer. -/
theorem Ext.set {m0 : Mem} {i : Nat} {b : Blk} (h : Ext m0 m) (hi : m0.next ≤ i) : Ext m0 (m.set i b) := ⟨h.1, fun j hj => by rw [set_get_ne _ (by omega)]; exact h.2 j hj⟩
theorem Ext.kill {m0 : Mem} {i : Nat} (h : Ext m0 m) (hi : m0.next ≤ i) : Ext m0 (m.kill i) := ⟨h.1, fun j hj => by rw [kill_get_ne (by omega)]; exact h.2 j hj⟩

/-- A slice that shows the cells cs, each of its elements one cell. -/
def Shows (m : Mem) (v : Value) (cs : List Value) : Prop := ∃ a z, v = .slice a cs.length z ∧ shown 1 cs.length v m = some cs ∧ ∀ i off sp, a = some ⟨i, off, sp⟩ → z = 1

theorem Shows.nil (m : Mem) : Shows m (.slice none 0 0) [] := ⟨none, 0, rfl, rfl, fun _ _ _ h => by cases h⟩

theorem Shows.nil_of (m : Mem) {i off : Nat} : Shows m (.slice (some ⟨i, off, none⟩) 0 1) [] := ⟨_, 1, rfl, rfl, fun _ _ _ _ => rfl⟩

/-- A whole block. -/
theorem Shows.whole {i : Nat} {cs : List Value} {e : TypeId} {own : Bool} (h : m.get i = some (.cells cs e own)) : Shows m (.slice (some ⟨i, 0, none⟩) cs.length 1) cs := by
  refine ⟨_, _, rfl, ?_, fun _ _ _ _ => rfl⟩
  simp only [shown]
  split
  · rename_i h0
    rw [List.eq_nil_of_length_eq_zero h0]
  · simp [h]

/-- The block a slice that is not empty lies in. -/
theorem Shows.block {v : Value} (h : Shows m v cs) (hn : cs ≠ []) : ∃ i off all e own, v = .slice (some ⟨i, off, none⟩) cs.length 1 ∧ m.get i = some (.cells all e own) ∧ off + cs.length ≤ all.length ∧ (all.drop off).take cs.length = cs := by
  obtain ⟨a, z, rfl, hs, hz⟩ := h
  have h0 : cs.length ≠ 0 := fun h => hn (List.eq_nil_of_length_eq_zero h)
  unfold shown at hs
  split at hs
  · rename_i heq
    rw [if_neg h0] at hs; cases hs
  · rename_i i off _ _ heq
    obtain ⟨rfl, _, _⟩ := Value.slice.inj heq
    obtain rfl := hz _ _ _ rfl
    rw [if_neg h0] at hs
    split at hs
    · rename_i all e own hg
      split at hs
      · rename_i hle
        rw [Nat.mul_one] at hs hle
        exact ⟨i, off, all, e, own, rfl, hg, hle, Option.some.inj hs⟩
      · cases hs
    · cases hs
  · cases hs

theorem Shows.frame {v : Value} (h : Shows m v cs) (hx : ∀ i off sp n z, v = .slice (some ⟨i, off, sp⟩) n z → m'.get i = m.get i) : Shows m' v cs := by
  obtain ⟨a, z, rfl, hs, hz⟩ := h
  exact ⟨a, z, rfl, shown_same hx hs, hz⟩

/-- A slice whose block is older than k. -/
def Under (k : Nat) (v : Value) : Prop := ∀ i off sp n z, v = .slice (some ⟨i, off, sp⟩) n z → i < k
theorem Under.mono {k l : Nat} {v : Value} (h : Under k v) (hk : k ≤ l) : Under l v := fun i off sp n z e => Nat.lt_of_lt_of_le (h i off sp n z e) hk
theorem Shows.ext {v : Value} (h : Shows m v cs) (hu : Under m.next v) (hx : Ext m m') : Shows m' v cs := h.frame fun i off sp n z e => hx.2 i (hu i off sp n z e)

/-- Element j. -/
theorem Shows.at {v : Value} (h : Shows m v cs) (ht : P.underlying t = some (.slice e)) (hsz : tsize P e = some 1) (ha : aggOf P e = some false) {j : Nat} (hj : j < cs.length) :
    ∃ p, opIndexAddr P t v (.int .i64 j) = some (.pointer p) ∧ opLoad P e (.pointer p) m = some cs[j] ∧ (∀ i off sp n z, v = .slice (some ⟨i, off, sp⟩) n z → p = some ⟨i, off + j, none⟩) := by
  obtain ⟨i, off, all, e', own, rfl, hg, hle, hc⟩ := h.block (by rintro rfl; simp at hj)
  refine ⟨some ⟨i, off + j * 1, none⟩, ?_, ?_, ?_⟩
  · simp only [opIndexAddr, ht, hsz]
    rw [if_pos (by omega)]
    simp
  · simp only [opLoad, hg, ha]
    have : cs[j] = ((all.drop off).take cs.length)[j]'(by rw [hc]; exact hj) := by
      simp only [hc]
    rw [this]
    simp only [List.getElem_take, List.getElem_drop, Nat.mul_one]
    rw [List.getElem?_eq_getElem]
  · intro i' off' sp n z e
    simp only [Value.slice.injEq, Option.some.injEq, Addr.mk.injEq] at e
    obtain ⟨⟨rfl, rfl, rfl⟩, _, _⟩ := e
    rw [Nat.mul_one]

/-- A part of a slice. -/
theorem Shows.cut {v : Value} (h : Shows m v cs) (ht : P.underlying t = some (.slice e)) (hsz : tsize P e = some 1) {lo hi : Option Value} {l k : Nat} (hl : boundOf lo 0 = some l) (hk : boundOf hi cs.length = some k) (h1 : l ≤ k) (h2 : k ≤ cs.length) :
    ∃ w, opSlice P t v lo hi = some w ∧ Shows m w ((cs.drop l).take (k - l)) ∧ (∀ b, Under b v → Under b w) := by
  by_cases hn : cs = []
  · subst hn
    have hk0 : k = 0 := by simpa using h2
    subst hk0
    have hl0 : l = 0 := by omega
    subst hl0
    obtain ⟨a, z, rfl, hs, hz⟩ := h
    simp only [List.length_nil] at hk hs ⊢
    cases a with
    | none =>
      exact ⟨.slice none 0 0, by simp only [opSlice, ht, hl, hk, hsz, Nat.le_refl, and_self, if_true], Shows.nil m, fun b hb i off sp n z he => by simp at he⟩
    | some q =>
      obtain ⟨i, off, sp⟩ := q
      obtain rfl := hz _ _ _ rfl
      cases sp with
      | some sp => simp [shown] at hs
      | none =>
        refine ⟨.slice (some ⟨i, off, none⟩) 0 1, ?_, Shows.nil_of m, fun b hb i' off' sp n z he => ?_⟩
        · simp [opSlice, ht, hl, hk, hsz]
        · simp only [Value.slice.injEq, Option.some.injEq, Addr.mk.injEq] at he
          obtain ⟨⟨rfl, rfl, rfl⟩, _, _⟩ := he
          exact hb _ _ _ _ _ rfl
  · obtain ⟨i, off, all, e', own, rfl, hg, hle, hc⟩ := h.block hn
    refine ⟨.slice (some ⟨i, off + l * 1, none⟩) (k - l) 1, ?_, ?_, fun b hb i' off' sp n z he => ?_⟩
    · simp only [opSlice, ht, hl, hk, hsz, h1, h2, and_self, if_true]
    · have hlen : ((cs.drop l).take (k - l)).length = k - l := by simp; omega
      refine ⟨_, 1, by rw [hlen], ?_, fun _ _ _ _ => rfl⟩
      rw [hlen]
      simp only [shown, hg, Nat.mul_one]
      split
      · rename_i h0; rw [h0]; simp
      · rw [if_pos (by omega)]
        rw [← hc]
        congr 1
        rw [List.drop_take, List.take_take, List.drop_drop]
        congr 1
        omega
    · simp only [Value.slice.injEq, Option.some.injEq, Addr.mk.injEq] at he
      obtain ⟨⟨rfl, rfl, rfl⟩, _, _⟩ := he
      exact hb _ _ _ _ _ rfl

/-- One cell is stored. -/
theorem store_one {i off : Nat} {own : List Value} {v : Value} (hg : m.get i = some (.cells own e true)) (ht : tsize P t = some 1) (hv : okCell v = true) (hoff : off < own.length) :
    opStore P t (.pointer (some ⟨i, off, none⟩)) v m = some (m.set i (.cells (own.set off v) e true)) := by
  have hc : v.cells = #[v] := by cases v <;> first | rfl | cases hv
  have hk : okVal v = true := by cases v <;> first | rfl | cases hv
  simp only [opStore, hg, hc, hk, ht]
  rw [if_pos ⟨rfl, trivial, by simp; omega⟩]
  simp only [setCells, List.set_eq_take_append_cons_drop, if_pos hoff]
  simp

theorem index_own {i n j : Nat} (ht : P.underlying t = some (.slice e)) (hs : tsize P e = some 1) (hj : j < n) : opIndexAddr P t (.slice (some ⟨i, 0, none⟩) n 1) (.int .i64 j) = some (.pointer (some ⟨i, j, none⟩)) := by
  simp only [opIndexAddr, ht, hs]
  rw [if_pos (by omega)]
  simp

/-- Rows of zeros. -/
theorem zeroRow_one (z : Value) (n : Nat) : (zeroRow #[z] n).toList = List.replicate n z := by
  simp only [zeroRow, Array.toList_map, Array.toList_range]
  refine List.ext_getElem (by simp) fun i h1 h2 => ?_
  simp [Nat.mod_one]

theorem make_one {z : Value} {b : Nat} {N : Int} (ht : P.underlying t = some (.slice e)) (hs : tsize P e = some 1) (hz : tzero P e = some z) (hb : tbytes P e = some b) (hc : z.cells = #[z]) (hk : zeroOk z = true) (hN : N = n) (hn : n * b ≤ 140737488355328) (hn2 : n < 2 ^ 62) :
    opMakeSlice P t (.int .i64 N) (.int .i64 N) m = some (.slice (some ⟨m.next, 0, none⟩) n 1, m.new (.cells (List.replicate n z) e true)) := by
  subst hN
  simp only [opMakeSlice, ht, hs, hz, hb, hc, hk, Int.toNat_natCast, Nat.mul_one, zeroRow_one]
  rw [if_pos]
  exact ⟨trivial, Int.natCast_nonneg _, hn, by omega, trivial, by decide, rfl⟩

/-- A row one of whose elements is set. -/
theorem set_range {α : Type} (f : Nat → α) (n j : Nat) (x : α) : ((List.range n).map f).set j x = (List.range n).map fun k => if k = j then x else f k := by
  refine List.ext_getElem (by simp) fun i h1 h2 => ?_
  simp only [List.getElem_set, List.getElem_map, List.getElem_range]
  by_cases h : j = i
  · subst h; simp
  · rw [if_neg h, if_neg (fun hh => h hh.symm)]

end Go.AM
