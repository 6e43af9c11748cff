/- Words of sixteen bits, put and taken: what a writer and a reader are in memory; the plain law of what they do. -/
import Derived.Test.YtimjcfaciiimmaaAmDat2
import Derived.Test.YtimjcfaciiimmaaAmLex
import Derived.Laws.BitsAllLaws
set_option linter.unusedSimpArgs false
set_option linter.unusedVariables false
namespace Go.AM.Wire
open Go Go.AM Go.AM.Crc
variable {P : Program} {T TB TW TR tx : TypeId} {m m' m'' m1 : Mem} {i r : Nat} {bs all : List Int}

def byteCells (bs : List Int) : List Value := bs.map (.int .u8)
theorem byteCells_append (xs ys : List Int) : byteCells (xs ++ ys) = byteCells xs ++ byteCells ys := List.map_append
theorem byteCells_length (bs : List Int) : (byteCells bs).length = bs.length := List.length_map _
theorem cellsOf_strOf {s : List Int} (h : Bytes s) : cellsOfBytes (strOf s) = byteCells s := by
  unfold cellsOfBytes strOf byteCells
  simp only [List.map_map]
  refine List.map_congr_left fun b hb => ?_
  have := h b hb
  simp only [Function.comp]
  congr 1
  simp
  omega

/-- The types of bytes and of rows of bytes. -/
structure WTy (P : Program) (TB T : TypeId) : Prop where
  hT : P.underlying T = some (.slice TB)
  hB : P.underlying TB = some (.int .u8)
  hs : tsize P TB = some 1
  hz : tzero P TB = some (.int .u8 0)
  hb : tbytes P TB = some 1

/-- All but the blocks i and r stand. -/
def Fr2 (i r : Nat) (m m' : Mem) : Prop := m.next ≤ m'.next ∧ ∀ j, j < m.next → j ≠ i → j ≠ r → m'.get j = m.get j
theorem Fr2.trans {r' : Nat} (h : Fr2 i r m m') (k : Fr2 i r' m' m'') (hr : r' = r ∨ m.next ≤ r') : Fr2 i r m m'' :=
  ⟨Nat.le_trans h.1 k.1, fun j hj h1 h2 => (k.2 j (Nat.lt_of_lt_of_le hj h.1) h1 (by rcases hr with rfl | hr <;> omega)).trans (h.2 j hj h1 h2)⟩
theorem Fr2.refl : Fr2 i r m m := ⟨Nat.le_refl _, fun _ _ _ _ => rfl⟩
/-- A writer in block i, its row in block r (none yet: r is i). -/
def Wr (TW TB : TypeId) (m : Mem) (i r : Nat) (bs : List Int) : Prop :=
  i < m.next ∧ r < m.next ∧ ((r = i ∧ bs = [] ∧ m.get i = some (.cells [.slice none 0 0] TW true)) ∨ (r ≠ i ∧ m.get i = some (.cells [.slice (some ⟨r, 0, none⟩) bs.length 1] TW true) ∧ m.get r = some (.cells (byteCells bs) TB true)))
theorem Wr.made : Wr TW TB (m.new (.cells [.slice none 0 0] TW true)) m.next m.next [] := ⟨Nat.lt_succ_self _, Nat.lt_succ_self _, .inl ⟨rfl, rfl, new_get _ _⟩⟩
theorem Wr.val (h : Wr TW TB m i r bs) : ∃ v, m.get i = some (.cells [v] TW true) ∧ OwnI r TB 1 m v bs.length (byteCells bs) := by
  obtain ⟨_, h0, ⟨_, rfl, h2⟩ | ⟨_, h2, h3⟩⟩ := h
  · exact ⟨_, h2, OwnI.nil⟩
  · exact ⟨_, h2, by rw [byteCells_length, Nat.mul_one], .inr ⟨h0, rfl, h3⟩⟩
theorem Wr.keep (h : Wr TW TB m i r bs) (hn : m.next ≤ m'.next) (h1 : m'.get i = m.get i) (h2 : m'.get r = m.get r) : Wr TW TB m' i r bs := by
  obtain ⟨a, b, c⟩ := h
  rw [← h1, ← h2] at c
  exact ⟨Nat.lt_of_lt_of_le a hn, Nat.lt_of_lt_of_le b hn, c⟩
theorem Wr.ext (h : Wr TW TB m i r bs) (x : Ext m m') : Wr TW TB m' i r bs := h.keep x.1 (x.2 i h.1) (x.2 r h.2.1)
/-- Bytes are put behind. -/
theorem Wr.push {new : List Int} {x v : Value} (wt : WTy P TB T) (h : Wr TW TB m i r bs) (hm : Ext m m1) (hv : m.get i = some (.cells [v] TW true))
    (ha : addedBy P (some tx) 1 (.int .u8 0) x m1 = some (new.length, byteCells new)) (hn : bs.length + new.length ≤ 140737488355328) :
    ∃ w m2, opAppend P [T, tx] [v, x] m1 = some (w, m2) ∧ m2.get i = some (.cells [v] TW true) ∧ w.cells = #[w] ∧ okVal w = true ∧ okCell w = true ∧
      ∃ r', Wr TW TB (m2.set i (.cells [w] TW true)) i r' (bs ++ new) ∧ (r' = r ∨ m.next ≤ r') ∧ Fr2 i r m (m2.set i (.cells [w] TW true)) := by
  have hzc : (Value.int .u8 0).cells.size = 1 := rfl
  have hk : zeroOk (.int .u8 0) = true := rfl
  have hx1 := hm.1
  by_cases h0 : new.length = 0
  · have : new = [] := List.eq_nil_of_length_eq_zero h0
    subst this
    have gi := (hm.2 i h.1).trans hv
    have e : opAppend P [T, tx] [v, x] m1 = some (v, m1) := by
      obtain ⟨_, _, ⟨_, _, h2⟩ | ⟨_, h2, _⟩⟩ := h <;> (rw [hv] at h2; cases h2) <;>
      · simp only [opAppend, wt.hT, wt.hs, wt.hz, wt.hb, hk, hzc, List.head?_cons, ha]
        rw [if_pos ⟨trivial, Nat.one_pos, Nat.one_pos, trivial⟩]
        simp
    have c : v.cells = #[v] ∧ okVal v = true ∧ okCell v = true := by
      obtain ⟨_, _, ⟨_, _, h2⟩ | ⟨_, h2, _⟩⟩ := h <;> (rw [hv] at h2; cases h2) <;> exact ⟨rfl, rfl, rfl⟩
    refine ⟨v, m1, e, gi, c.1, c.2.1, c.2.2, r, ?_, .inl rfl, ⟨hx1, fun j hj h1 _ => by rw [set_get_ne _ h1, hm.2 j hj]⟩⟩
    rw [List.append_nil]
    obtain ⟨a, b, ⟨c1, c2, c3⟩ | ⟨c1, c2, c3⟩⟩ := h
    · rw [hv] at c3; cases c3
      exact ⟨by simp only [set_next]; omega, by simp only [set_next]; omega, .inl ⟨c1, c2, set_get _ _ _⟩⟩
    · rw [hv] at c2; cases c2
      exact ⟨by simp only [set_next]; omega, by simp only [set_next]; omega, .inr ⟨c1, set_get _ _ _, by rw [set_get_ne _ c1, hm.2 r b, c3]⟩⟩
  · obtain ⟨a, b, ⟨rfl, rfl, c3⟩ | ⟨c1, c2, c3⟩⟩ := h
    · rw [hv] at c3; cases c3
      refine ⟨.slice (some ⟨m1.next, 0, none⟩) new.length 1, m1.new (.cells (byteCells new) TB true), ?_, ?_, rfl, rfl, rfl, m1.next, ?_, .inr hx1, ?_⟩
      · simp only [opAppend, wt.hT, wt.hs, wt.hz, wt.hb, hk, hzc, List.head?_cons, ha]
        rw [if_pos ⟨trivial, Nat.one_pos, Nat.one_pos, trivial⟩, if_neg h0, if_pos (by have q := hn; simp only [List.length_nil] at q; omega)]
      · rw [new_get_ne _ (by omega), hm.2 r a, hv]
      · refine ⟨by simp only [set_next, new_next]; omega, by simp only [set_next, new_next]; omega, .inr ⟨by omega, ?_, ?_⟩⟩
        · rw [set_get, List.nil_append]
        · rw [set_get_ne _ (by omega), new_get, List.nil_append]
      · exact ⟨by simp only [set_next, new_next]; omega, fun j hj h1 _ => by rw [set_get_ne _ h1, new_get_ne _ (by omega), hm.2 j hj]⟩
    · rw [hv] at c2; cases c2
      have gr := (hm.2 r b).trans c3
      refine ⟨.slice (some ⟨m1.next, 0, none⟩) (bs.length + new.length) 1, (m1.kill r).new (.cells (byteCells bs ++ byteCells new) TB true), ?_, ?_, rfl, rfl, rfl, m1.next, ?_, .inr hx1, ?_⟩
      · simp only [opAppend, wt.hT, wt.hs, wt.hz, wt.hb, hk, hzc, List.head?_cons, ha]
        rw [if_pos ⟨trivial, Nat.one_pos, Nat.one_pos, trivial⟩, if_neg h0, if_pos (by omega), gr]
        simp [byteCells_length]
      · rw [new_get_ne _ (by rw [kill_next]; omega), kill_get_ne (Ne.symm c1), hm.2 i a, hv]
      · have gn := new_get (m1.kill r) (.cells (byteCells bs ++ byteCells new) TB true)
        rw [kill_next] at gn
        refine ⟨by simp only [set_next, new_next, kill_next]; omega, by simp only [set_next, new_next, kill_next]; omega, .inr ⟨by omega, ?_, ?_⟩⟩
        · rw [set_get, List.length_append]
        · rw [set_get_ne _ (by omega), gn, byteCells_append]
      · exact ⟨by simp only [set_next, new_next, kill_next]; omega, fun j hj h1 h2 => by rw [set_get_ne _ h1, new_get_ne _ (by rw [kill_next]; omega), kill_get_ne h2, hm.2 j hj]⟩

/-- A word's bytes, and a long's, a quad's, a text's. -/
def wordB (x : Int) : List Int := [x / 256, x % 256]
def longB (x : Int) : List Int := wordB (x / 65536) ++ wordB (x % 65536)
def quadB (x : Int) : List Int := longB (x / 4294967296) ++ longB (x % 4294967296)
def textB (s : List Int) : List Int := wordB s.length ++ s ++ (if s.length % 2 = 1 then [0] else [])
theorem wordB_length (x : Int) : (wordB x).length = 2 := rfl
theorem longB_length (x : Int) : (longB x).length = 4 := rfl
theorem quadB_length (x : Int) : (quadB x).length = 8 := rfl
theorem textB_length (s : List Int) : (textB s).length = 2 + (s.length + s.length % 2) := by
  simp only [textB, List.length_append, wordB_length]
  split <;> simp only [List.length_cons, List.length_nil] <;> omega
theorem bytes_word {x : Int} (h0 : 0 ≤ x) (h1 : x < 65536) : Bytes (wordB x) := by
  intro b hb
  simp only [wordB, List.mem_cons, List.not_mem_nil, or_false] at hb
  omega
theorem bytes_append {xs ys : List Int} (h : Bytes xs) (k : Bytes ys) : Bytes (xs ++ ys) := fun b hb => (List.mem_append.1 hb).elim (h b) (k b)
theorem bytes_long {x : Int} (h0 : 0 ≤ x) (h1 : x < 4294967296) : Bytes (longB x) := bytes_append (bytes_word (by omega) (by omega)) (bytes_word (by omega) (by omega))
theorem bytes_quad {x : Int} (h0 : 0 ≤ x) (h1 : x < 18446744073709551616) : Bytes (quadB x) := bytes_append (bytes_long (by omega) (by omega)) (bytes_long (by omega) (by omega))
theorem bytes_text {s : List Int} (h : Bytes s) (hl : s.length < 65536) : Bytes (textB s) := by
  refine bytes_append (bytes_append (bytes_word (by omega) (by omega)) h) ?_
  split
  · intro b hb; simp at hb; omega
  · intro b hb; simp at hb

theorem u8_hi {x : Int} (h0 : 0 ≤ x) (h1 : x < 65536) : IntKind.u8.wrap (x.fdiv (2 ^ min (Int.toNat 8) IntKind.u16.bits)) = x / 256 := by
  have e : x.fdiv (2 ^ min (Int.toNat 8) IntKind.u16.bits) = x / 256 := by
    rw [show min (Int.toNat 8) IntKind.u16.bits = 8 by decide, Int.fdiv_eq_ediv_of_nonneg _ (by decide)]; rfl
  rw [e, wrap_u8 (by omega) (by omega)]
theorem u8_lo {x : Int} : IntKind.u8.wrap x = x % 256 := by
  simp [IntKind.wrap, IntKind.signed, IntKind.bits]
theorem u16_hi {x : Int} (h0 : 0 ≤ x) (h1 : x < 4294967296) : IntKind.u16.wrap (x.fdiv (2 ^ min (Int.toNat 16) IntKind.u32.bits)) = x / 65536 := by
  have e : x.fdiv (2 ^ min (Int.toNat 16) IntKind.u32.bits) = x / 65536 := by
    rw [show min (Int.toNat 16) IntKind.u32.bits = 16 by decide, Int.fdiv_eq_ediv_of_nonneg _ (by decide)]; rfl
  rw [e]
  simp [IntKind.wrap, IntKind.signed, IntKind.bits]
  omega
theorem u16_lo {x : Int} : IntKind.u16.wrap x = x % 65536 := by
  simp [IntKind.wrap, IntKind.signed, IntKind.bits]
theorem u32_hi {x : Int} (h0 : 0 ≤ x) (h1 : x < 18446744073709551616) : IntKind.u32.wrap (x.fdiv (2 ^ min (Int.toNat 32) IntKind.u64.bits)) = x / 4294967296 := by
  have e : x.fdiv (2 ^ min (Int.toNat 32) IntKind.u64.bits) = x / 4294967296 := by
    rw [show min (Int.toNat 32) IntKind.u64.bits = 32 by decide, Int.fdiv_eq_ediv_of_nonneg _ (by decide)]; rfl
  rw [e]
  simp [IntKind.wrap, IntKind.signed, IntKind.bits]
  omega
theorem u32_lo {x : Int} : IntKind.u32.wrap x = x % 4294967296 := by
  simp [IntKind.wrap, IntKind.signed, IntKind.bits]
theorem nat_or {a b k : Nat} (hb : b < 2 ^ k) : a * 2 ^ k ||| b = a * 2 ^ k + b := by
  rw [← Nat.shiftLeft_eq, Nat.shiftLeft_add_eq_or_of_lt hb]
theorem or16 {a b : Int} (ha : 0 ≤ a ∧ a < 256) (hb : 0 ≤ b ∧ b < 256) : bits .or .u16 (IntKind.u16.wrap (IntKind.u16.wrap a * 2 ^ min (Int.toNat 8) IntKind.u16.bits)) (IntKind.u16.wrap b) = a * 256 + b := by
  rw [show min (Int.toNat 8) IntKind.u16.bits = 8 by decide, u16_lo, u16_lo, u16_lo]
  have e1 : a % 65536 * 2 ^ 8 % 65536 = ((a.toNat * 2 ^ 8 : Nat) : Int) := by omega
  have e2 : b % 65536 = ((b.toNat : Nat) : Int) := by omega
  rw [e1, e2, u16_or_nat _ _ (by omega) (by omega), nat_or (by omega)]
  omega
theorem or32 {a b : Int} (ha : 0 ≤ a ∧ a < 65536) (hb : 0 ≤ b ∧ b < 65536) : bits .or .u32 (IntKind.u32.wrap (IntKind.u32.wrap a * 2 ^ min (Int.toNat 16) IntKind.u32.bits)) (IntKind.u32.wrap b) = a * 65536 + b := by
  rw [show min (Int.toNat 16) IntKind.u32.bits = 16 by decide, u32_lo, u32_lo, u32_lo]
  have e1 : a % 4294967296 * 2 ^ 16 % 4294967296 = ((a.toNat * 2 ^ 16 : Nat) : Int) := by omega
  have e2 : b % 4294967296 = ((b.toNat : Nat) : Int) := by omega
  rw [e1, e2, u32_or_nat _ _ (by omega) (by omega), nat_or (by omega)]
  omega
theorem or64 {a b : Int} (ha : 0 ≤ a ∧ a < 4294967296) (hb : 0 ≤ b ∧ b < 4294967296) : bits .or .u64 (IntKind.u64.wrap (IntKind.u64.wrap a * 2 ^ min (Int.toNat 32) IntKind.u64.bits)) (IntKind.u64.wrap b) = a * 4294967296 + b := by
  have u64_lo : ∀ x : Int, IntKind.u64.wrap x = x % 18446744073709551616 := fun x => by simp [IntKind.wrap, IntKind.signed, IntKind.bits]
  rw [show min (Int.toNat 32) IntKind.u64.bits = 32 by decide, u64_lo, u64_lo, u64_lo]
  have e1 : a % 18446744073709551616 * 2 ^ 32 % 18446744073709551616 = ((a.toNat * 2 ^ 32 : Nat) : Int) := by omega
  have e2 : b % 18446744073709551616 = ((b.toNat : Nat) : Int) := by omega
  rw [e1, e2, u64_or_nat _ _ (by omega) (by omega), nat_or (by omega)]
  omega

/-- A reader in block i, its row in block r: where it stands, its error. -/
def Rr (TR TB : TypeId) (m : Mem) (i r : Nat) (all : List Int) (s : Nat × Int) : Prop :=
  i < m.next ∧ r < m.next ∧ r ≠ i ∧ s.1 ≤ all.length ∧ m.get i = some (.cells [.slice (some ⟨r, 0, none⟩) all.length 1, .int .i64 s.1, .int .i64 s.2] TR true) ∧ m.get r = some (.cells (byteCells all) TB true)
/-- All but the block i stands. -/
def Fr1 (i : Nat) (m m' : Mem) : Prop := m.next ≤ m'.next ∧ ∀ j, j < m.next → j ≠ i → m'.get j = m.get j
theorem Fr1.refl : Fr1 i m m := ⟨Nat.le_refl _, fun _ _ _ => rfl⟩
theorem Fr1.trans (h : Fr1 i m m') (k : Fr1 i m' m'') : Fr1 i m m'' := ⟨Nat.le_trans h.1 k.1, fun j hj hi => (k.2 j (Nat.lt_of_lt_of_le hj h.1) hi).trans (h.2 j hj hi)⟩
theorem Fr1.set (m : Mem) (i : Nat) (b : Blk) : Fr1 i m (m.set i b) := ⟨Nat.le_refl _, fun _ _ h => set_get_ne _ h⟩
theorem Rr.keep {s : Nat × Int} (h : Rr TR TB m i r all s) (hn : m.next ≤ m'.next) (h1 : m'.get i = m.get i) (h2 : m'.get r = m.get r) : Rr TR TB m' i r all s := by
  obtain ⟨a, b, c, d, e, f⟩ := h
  rw [← h1] at e
  rw [← h2] at f
  exact ⟨Nat.lt_of_lt_of_le a hn, Nat.lt_of_lt_of_le b hn, c, d, e, f⟩
theorem Rr.put {s t : Nat × Int} (h : Rr TR TB m i r all s) (ht : t.1 ≤ all.length) : Rr TR TB (m.set i (.cells [.slice (some ⟨r, 0, none⟩) all.length 1, .int .i64 t.1, .int .i64 t.2] TR true)) i r all t := by
  obtain ⟨a, b, c, d, e, f⟩ := h
  exact ⟨a, b, c, ht, set_get _ _ _, by rw [set_get_ne _ c, f]⟩

/- What a reader does. -/
def left (n : Nat) (s : Nat × Int) : Nat := if s.2 = 0 then n - s.1 else 0
def failS (e : Int) (s : Nat × Int) : Nat × Int := if s.2 = 0 then (s.1, e) else s
def wordS (all : List Int) (s : Nat × Int) : Int × (Nat × Int) :=
  if left all.length s < 2 then (0, failS 3 s) else (all.getD s.1 0 * 256 + all.getD (s.1 + 1) 0, (s.1 + 2, s.2))
def withinS (all : List Int) (most : Int) (s : Nat × Int) : Int × (Nat × Int) :=
  if most < (wordS all s).1 then (0, failS 7 (wordS all s).2) else wordS all s
def longS (all : List Int) (s : Nat × Int) : Int × (Nat × Int) :=
  let a := wordS all s
  let b := wordS all a.2
  if b.2.2 ≠ 0 then (0, b.2) else (a.1 * 65536 + b.1, b.2)
def quadS (all : List Int) (s : Nat × Int) : Int × (Nat × Int) :=
  let a := longS all s
  let b := longS all a.2
  if b.2.2 ≠ 0 then (0, b.2) else (a.1 * 4294967296 + b.1, b.2)
def textS (all : List Int) (most : Int) (s : Nat × Int) : List Int × (Nat × Int) :=
  let a := withinS all most s
  let n := a.1.toNat
  let k := n + n % 2
  let b := if left all.length a.2 < k then failS 3 a.2 else a.2
  if b.2 ≠ 0 then ([], b) else
  if n < k ∧ all.getD (b.1 + k - 1) 0 ≠ 0 then ([], (b.1 + k, 4)) else ((all.drop b.1).take n, (b.1 + k, 0))
def endS (n : Nat) (s : Nat × Int) : Int := if s.2 = 0 ∧ s.1 < n then 12 else s.2
theorem failS_le {e : Int} {s : Nat × Int} {n : Nat} (h : s.1 ≤ n) : (failS e s).1 ≤ n := by
  unfold failS; split <;> exact h
theorem wordS_le {s : Nat × Int} (h : s.1 ≤ all.length) : (wordS all s).2.1 ≤ all.length := by
  unfold wordS
  split
  · exact failS_le h
  · rename_i h2
    unfold left at h2
    simp only
    split at h2 <;> omega
theorem withinS_le {s : Nat × Int} {most : Int} (h : s.1 ≤ all.length) : (withinS all most s).2.1 ≤ all.length := by
  unfold withinS
  split
  · exact failS_le (wordS_le h)
  · exact wordS_le h
theorem getD_bytes (h : Bytes all) (k : Nat) : 0 ≤ all.getD k 0 ∧ all.getD k 0 < 256 := by
  rw [List.getD_eq_getElem?_getD]
  by_cases hk : k < all.length
  · rw [List.getElem?_eq_getElem hk]; exact h _ (List.getElem_mem _)
  · rw [List.getElem?_eq_none (by omega)]; exact ⟨Int.le_refl _, by decide⟩
theorem wordS_val {s : Nat × Int} (h : Bytes all) : 0 ≤ (wordS all s).1 ∧ (wordS all s).1 < 65536 := by
  unfold wordS
  have a := getD_bytes h s.1
  have b := getD_bytes h (s.1 + 1)
  split <;> simp only <;> omega
theorem withinS_val {s : Nat × Int} {most : Int} (h : Bytes all) : 0 ≤ (withinS all most s).1 ∧ (withinS all most s).1 < 65536 := by
  unfold withinS
  split
  · exact ⟨Int.le_refl _, by simp⟩
  · exact wordS_val h
theorem longS_val {s : Nat × Int} (h : Bytes all) : 0 ≤ (longS all s).1 ∧ (longS all s).1 < 4294967296 := by
  have a := wordS_val (s := s) h
  have b := wordS_val (s := (wordS all s).2) h
  simp only [longS]
  split <;> simp only <;> omega
end Go.AM.Wire
namespace Go.AM.Wire
open Go Go.AM
theorem bin_ptr_eq {P : Program} {t e : TypeId} (h : P.underlying t = some (.pointer e)) {a : Option Addr} : binV P .eql t (.pointer a) (.pointer none) = some (.bool a.isNone) := by
  cases a <;> simp only [binV, eqCell, h] <;> rfl
theorem bin_ptr_ne {P : Program} {t e : TypeId} (h : P.underlying t = some (.pointer e)) {a : Option Addr} : binV P .neq t (.pointer a) (.pointer none) = some (.bool (!a.isNone)) := by
  cases a <;> simp only [binV, eqCell, h] <;> rfl
end Go.AM.Wire
namespace Go.AM.Wire
open Go Go.AM
theorem added_bytes {P : Program} {m : Mem} {TB T : TypeId} {x z : Value} {new : List Int} (wt : WTy P TB T) (h : Shows m x (byteCells new)) : addedBy P (some T) 1 z x m = some (new.length, byteCells new) := by
  have := added_row (P := P) (z := z) wt.hT h
  rw [byteCells_length] at this
  exact this
end Go.AM.Wire
namespace Go.AM.Wire
open Go Go.AM
theorem okInt {k : IntKind} {n : Int} : okVal (.int k n) = true := rfl
end Go.AM.Wire
namespace Go.AM.Wire
open Go Go.AM Go.AM.Crc
/-- A row is copied behind an empty one. -/
theorem copy_row {P : Program} {m : Mem} {TB T tx : TypeId} {x : Value} {new : List Int} (wt : WTy P TB T) (ha : addedBy P (some tx) 1 (.int .u8 0) x (m.new (.cells [] TB true)) = some (new.length, byteCells new)) (hn : new.length ≤ 140737488355328) :
    ∃ m' r', opAppend P [T, tx] [.slice (some ⟨m.next, 0, none⟩) 0 1, x] (m.new (.cells [] TB true)) = some (.slice (some ⟨r', 0, none⟩) new.length 1, m') ∧ m'.get r' = some (.cells (byteCells new) TB true) ∧ m.next ≤ r' ∧ r' < m'.next ∧ Ext m m' := by
  have hzc : (Value.int .u8 0).cells.size = 1 := rfl
  have hk : zeroOk (.int .u8 0) = true := rfl
  by_cases h0 : new.length = 0
  · have : new = [] := List.eq_nil_of_length_eq_zero h0
    subst this
    refine ⟨_, m.next, ?_, new_get _ _, Nat.le_refl _, Nat.lt_succ_self _, Ext.new _ _⟩
    simp only [opAppend, wt.hT, wt.hs, wt.hz, wt.hb, hk, hzc, List.head?_cons, ha]
    rw [if_pos ⟨trivial, Nat.one_pos, Nat.one_pos, trivial⟩]
    simp [byteCells]
  · have gn := new_get ((m.new (.cells [] TB true)).kill m.next) (.cells (byteCells new) TB true)
    rw [kill_next, new_next] at gn
    refine ⟨((m.new (.cells [] TB true)).kill m.next).new (.cells (byteCells new) TB true), m.next + 1, ?_, gn, by omega, by simp only [new_next, kill_next]; omega, ⟨by simp only [new_next, kill_next]; omega, fun j hj => by rw [new_get_ne _ (by simp only [kill_next, new_next]; omega), kill_get_ne (by omega), new_get_ne _ (by omega)]⟩⟩
    simp only [opAppend, wt.hT, wt.hs, wt.hz, wt.hb, hk, hzc, List.head?_cons, ha]
    rw [if_pos ⟨trivial, Nat.one_pos, Nat.one_pos, trivial⟩, if_neg h0, if_pos (by omega), new_get]
    simp [new_next]
/-- Bytes of a row. -/
theorem byteCells_at {all : List Int} {k : Nat} (h : k < all.length) : (byteCells all)[k]? = some (.int .u8 (all.getD k 0)) := by
  simp only [byteCells, List.getElem?_map, List.getD_eq_getElem?_getD, List.getElem?_eq_getElem h, Option.map_some, Option.getD_some]
theorem left_err {n : Nat} {s : Nat × Int} (h : ¬ s.2 = 0) : left n s = 0 := by rw [left, if_neg h]
theorem left_ok {n : Nat} {s : Nat × Int} (h : s.2 = 0) : left n s = n - s.1 := by rw [left, if_pos h]
theorem fail_err {e : Int} {s : Nat × Int} (h : ¬ s.2 = 0) : failS e s = s := by rw [failS, if_neg h]
theorem fail_ok {e : Int} {s : Nat × Int} (h : s.2 = 0) : failS e s = (s.1, e) := by rw [failS, if_pos h]
end Go.AM.Wire
namespace Go.AM.Wire
open Go Go.AM Go.AM.Crc
variable {P : Program} {T TB tx : TypeId} {m m' m1 : Mem} {r : Nat} {bs new all : List Int}
/-- A row of bytes of one's own, in block r. -/
def rowV (r : Nat) (bs : List Int) : Value := .slice (some ⟨r, 0, none⟩) bs.length 1
def Brow (TB : TypeId) (m : Mem) (r : Nat) (bs : List Int) : Prop := r < m.next ∧ m.get r = some (.cells (byteCells bs) TB true)
theorem Brow.shows (h : Brow TB m r bs) : Shows m (rowV r bs) (byteCells bs) := by
  have := Shows.whole h.2
  rw [byteCells_length] at this
  exact this
theorem Brow.under (h : Brow TB m r bs) : Under m.next (rowV r bs) := by
  intro i off sp n z he
  simp only [rowV, Value.slice.injEq, Option.some.injEq, Addr.mk.injEq] at he
  have := h.1
  omega
theorem Brow.own (h : Brow TB m r bs) : OwnI r TB 1 m (rowV r bs) bs.length (byteCells bs) := ⟨by rw [byteCells_length, Nat.mul_one], .inr ⟨h.1, rfl, h.2⟩⟩
theorem Brow.keep (h : Brow TB m r bs) (hn : m.next ≤ m'.next) (hg : m'.get r = m.get r) : Brow TB m' r bs := ⟨Nat.lt_of_lt_of_le h.1 hn, hg.trans h.2⟩
theorem Brow.ext (h : Brow TB m r bs) (x : Ext m m') : Brow TB m' r bs := h.keep x.1 (x.2 r h.1)
theorem Brow.made (m : Mem) (bs : List Int) : Brow TB (m.new (.cells (byteCells bs) TB true)) m.next bs := ⟨Nat.lt_succ_self _, new_get _ _⟩
theorem Brow.push {x : Value} (wt : WTy P TB T) (h : Brow TB m r bs) (ha : addedBy P (some tx) 1 (.int .u8 0) x m = some (new.length, byteCells new)) (hn : bs.length + new.length ≤ 140737488355328) :
    ∃ m' r', opAppend P [T, tx] [rowV r bs, x] m = some (rowV r' (bs ++ new), m') ∧ Brow TB m' r' (bs ++ new) ∧ (r' = r ∨ m.next ≤ r') ∧ m.next ≤ m'.next ∧ ∀ j, j < m.next → j ≠ r → m'.get j = m.get j := by
  have hzc : (Value.int .u8 0).cells.size = 1 := rfl
  have hk : zeroOk (.int .u8 0) = true := rfl
  by_cases h0 : new.length = 0
  · have : new = [] := List.eq_nil_of_length_eq_zero h0
    subst this
    refine ⟨m, r, ?_, by rw [List.append_nil]; exact h, .inl rfl, Nat.le_refl _, fun _ _ _ => rfl⟩
    simp only [rowV, opAppend, wt.hT, wt.hs, wt.hz, wt.hb, hk, hzc, List.head?_cons, ha]
    rw [if_pos ⟨trivial, Nat.one_pos, Nat.one_pos, trivial⟩]
    simp
  · have gn := new_get (m.kill r) (.cells (byteCells bs ++ byteCells new) TB true)
    rw [kill_next] at gn
    refine ⟨(m.kill r).new (.cells (byteCells bs ++ byteCells new) TB true), m.next, ?_, ⟨by simp only [new_next, kill_next]; omega, by rw [gn, byteCells_append]⟩, .inr (Nat.le_refl _), by simp only [new_next, kill_next]; omega, fun j hj hne => by rw [new_get_ne _ (by rw [kill_next]; omega), kill_get_ne hne]⟩
    simp only [rowV, opAppend, wt.hT, wt.hs, wt.hz, wt.hb, hk, hzc, List.head?_cons, ha]
    rw [if_pos ⟨trivial, Nat.one_pos, Nat.one_pos, trivial⟩, if_neg h0, if_pos (by omega), h.2]
    simp [byteCells_length, kill_next]

theorem rowV_cells : (rowV r bs).cells = #[rowV r bs] := rfl
theorem rowV_ok : okVal (rowV r bs) = true := rfl
theorem ref_hi {n : Int} (h0 : 0 ≤ n) (h1 : n < 65536) : IntKind.u8.wrap (Int.tmod (IntKind.i64.wrap (n.tdiv 256)) 256) = n / 256 := by
  have e1 : n.tdiv 256 = n / 256 := Int.tdiv_eq_ediv_of_nonneg h0
  rw [e1, wrap_i64 (by omega) (by omega), Int.tmod_eq_emod_of_nonneg (by omega), wrap_u8 (by omega) (by omega)]
  omega
theorem ref_lo {n : Int} (h0 : 0 ≤ n) : IntKind.u8.wrap (Int.tmod n 256) = n % 256 := by
  rw [Int.tmod_eq_emod_of_nonneg h0, wrap_u8 (by omega) (by omega)]

/- What is put is taken as it was. -/
theorem getD_mid (xs zs ys : List Int) {k : Nat} (h : k < zs.length) : (xs ++ (zs ++ ys)).getD (xs.length + k) 0 = zs.getD k 0 := by
  simp only [List.getD_eq_getElem?_getD]
  rw [List.getElem?_append_right (by omega), Nat.add_sub_cancel_left, List.getElem?_append_left h]
theorem left_mid (xs zs ys : List Int) : left (xs ++ (zs ++ ys)).length (xs.length, 0) = zs.length + ys.length := by
  rw [left_ok rfl, List.length_append, List.length_append]
  simp only
  omega
theorem wordS_mid {x : Int} (xs ys : List Int) : wordS (xs ++ (wordB x ++ ys)) (xs.length, 0) = (x, ((xs ++ wordB x).length, 0)) := by
  rw [wordS, if_neg (by rw [left_mid, wordB_length]; omega)]
  simp only
  have e1 := getD_mid xs (wordB x) ys (k := 0) (by rw [wordB_length]; omega)
  have e2 := getD_mid xs (wordB x) ys (k := 1) (by rw [wordB_length]; omega)
  rw [Nat.add_zero] at e1
  rw [e1, e2, List.length_append, wordB_length]
  have : (wordB x).getD 0 0 * 256 + (wordB x).getD 1 0 = x := by
    simp only [wordB, List.getD_cons_zero, List.getD_cons_succ]
    omega
  rw [this]
theorem withinS_mid {x most : Int} (xs ys : List Int) (h : x ≤ most) : withinS (xs ++ (wordB x ++ ys)) most (xs.length, 0) = (x, ((xs ++ wordB x).length, 0)) := by
  rw [withinS, wordS_mid, if_neg (by simp only; omega)]
theorem longS_mid {x : Int} (xs ys : List Int) : longS (xs ++ (longB x ++ ys)) (xs.length, 0) = (x, ((xs ++ longB x).length, 0)) := by
  have e1 : wordS (xs ++ (longB x ++ ys)) (xs.length, 0) = (x / 65536, ((xs ++ wordB (x / 65536)).length, 0)) := by
    rw [longB, List.append_assoc]; exact wordS_mid _ _
  have e2 : wordS (xs ++ (longB x ++ ys)) ((xs ++ wordB (x / 65536)).length, 0) = (x % 65536, ((xs ++ longB x).length, 0)) := by
    have := wordS_mid (x := x % 65536) (xs ++ wordB (x / 65536)) ys
    rw [longB]
    simp only [List.append_assoc] at this ⊢
    exact this
  simp only [longS, e1, e2]
  rw [if_neg (by simp)]
  refine Prod.ext ?_ rfl
  simp only
  omega
theorem quadS_mid {x : Int} (xs ys : List Int) : quadS (xs ++ (quadB x ++ ys)) (xs.length, 0) = (x, ((xs ++ quadB x).length, 0)) := by
  have e1 : longS (xs ++ (quadB x ++ ys)) (xs.length, 0) = (x / 4294967296, ((xs ++ longB (x / 4294967296)).length, 0)) := by
    rw [quadB, List.append_assoc]; exact longS_mid _ _
  have e2 : longS (xs ++ (quadB x ++ ys)) ((xs ++ longB (x / 4294967296)).length, 0) = (x % 4294967296, ((xs ++ quadB x).length, 0)) := by
    have := longS_mid (x := x % 4294967296) (xs ++ longB (x / 4294967296)) ys
    rw [quadB]
    simp only [List.append_assoc] at this ⊢
    exact this
  simp only [quadS, e1, e2]
  rw [if_neg (by simp)]
  refine Prod.ext ?_ rfl
  simp only
  omega
theorem textS_mid {s : List Int} {most : Int} (xs ys : List Int) (h : (s.length : Int) ≤ most) : textS (xs ++ (textB s ++ ys)) most (xs.length, 0) = (s, ((xs ++ textB s).length, 0)) := by
  obtain ⟨pad, hp⟩ : ∃ pad, pad = (if s.length % 2 = 1 then [0] else ([] : List Int)) := ⟨_, rfl⟩
  have et : textB s = wordB s.length ++ (s ++ pad) := by rw [textB, hp, List.append_assoc]
  have hpl : pad.length = s.length % 2 := by
    rw [hp]; split <;> simp <;> omega
  have e1 : withinS (xs ++ (textB s ++ ys)) most (xs.length, 0) = ((s.length : Int), ((xs ++ wordB s.length).length, 0)) := by
    rw [et, List.append_assoc]
    exact withinS_mid (ys := s ++ pad ++ ys) xs h
  have ea : xs ++ (textB s ++ ys) = (xs ++ wordB s.length) ++ ((s ++ pad) ++ ys) := by rw [et]; simp only [List.append_assoc]
  have e2 : left (xs ++ (textB s ++ ys)).length ((xs ++ wordB s.length).length, 0) = (s ++ pad).length + ys.length := by
    rw [ea]; exact left_mid _ _ _
  have e3 : (s.length : Int).toNat = s.length := by omega
  have e4 : ¬ left (xs ++ (textB s ++ ys)).length ((xs ++ wordB s.length).length, 0) < s.length + s.length % 2 := by
    rw [e2, List.length_append, hpl]; omega
  have e5 : (xs ++ wordB s.length).length + (s.length + s.length % 2) = (xs ++ textB s).length := by
    rw [et]; simp only [List.length_append, hpl]; omega
  have e6 : ¬ (s.length < s.length + s.length % 2 ∧ (xs ++ (textB s ++ ys)).getD ((xs ++ wordB s.length).length + (s.length + s.length % 2) - 1) 0 ≠ 0) := by
    rintro ⟨h1, h2⟩
    refine h2 ?_
    have h3 : s.length % 2 = 1 := by omega
    have hp1 : pad = [0] := by rw [hp, if_pos h3]
    rw [ea, h3]
    have := getD_mid (xs ++ wordB s.length) (s ++ pad) ys (k := s.length) (by rw [List.length_append, hpl]; omega)
    rw [show (xs ++ wordB s.length).length + (s.length + 1) - 1 = (xs ++ wordB s.length).length + s.length by omega, this, hp1]
    simp [List.getD_eq_getElem?_getD]
  have e7 : ((xs ++ (textB s ++ ys)).drop (xs ++ wordB s.length).length).take s.length = s := by
    rw [ea, List.drop_left, List.append_assoc, List.take_left]
  simp only [textS, e1, e3, if_neg e4]
  rw [if_neg (by simp), if_neg e6, e7, e5]
end Go.AM.Wire
namespace Go.AM.Wire
open Go Go.AM Go.AM.Crc
theorem str_bytes (s : List UInt8) : ∃ bs, Bytes bs ∧ bs.length = s.length ∧ (⟨s.toArray⟩ : ByteArray) = strOf bs := by
  refine ⟨s.map fun b => (b.toNat : Int), fun b h => ?_, List.length_map _, ?_⟩
  · obtain ⟨x, _, rfl⟩ := List.mem_map.1 h
    have := x.toNat_lt
    omega
  · refine ByteArray.ext ?_
    simp [strOf, Function.comp_def]
theorem Fr2.ext {m0 m m' : Mem} {i r : Nat} (h : Fr2 i r m m') (x : Ext m0 m) (hi : m0.next ≤ i) (hr : m0.next ≤ r) : Ext m0 m' := ⟨Nat.le_trans x.1 h.1, fun j hj => (h.2 j (Nat.lt_of_lt_of_le hj x.1) (by omega) (by omega)).trans (x.2 j hj)⟩
end Go.AM.Wire
namespace Go.AM.Wire
open Go Go.AM Go.AM.Crc
section
variable {P : Program} {T TB TW : TypeId} {m0 m1 m2 μ : Mem} {i ρ ρ1 r2 rw : Nat} {bs c : List Int} {v : Value}
theorem Fr1.ext {m0 m m' : Mem} {i : Nat} (h : Fr1 i m m') (x : Ext m0 m) (hi : m0.next ≤ i) : Ext m0 m' := ⟨Nat.le_trans x.1 h.1, fun j hj => (h.2 j (Nat.lt_of_lt_of_le hj x.1) (by omega)).trans (x.2 j hj)⟩
/-- A frozen row of one-cell elements. -/
theorem el1 {α : Type} {g : α → Value} {xs : List α} {t e : TypeId} {j : Nat} (h : FRow m0 v 1 xs.length (xs.map g)) (hp : Ext m0 μ) (ht : P.underlying t = some (.slice e)) (hs : tsize P e = some 1) (ha : aggOf P e = some false) (hj : j < xs.length) :
    ∃ p, opIndexAddr P t v (.int .i64 j) = some (.pointer (some p)) ∧ opLoad P e (.pointer (some p)) μ = some (g xs[j]) := by
  obtain ⟨p, c, hc, h1, _, h2⟩ := h.at1 (P := P) ht hs ha hj
  rw [List.getElem?_map, List.getElem?_eq_getElem hj] at hc
  obtain rfl := Option.some.inj hc
  exact ⟨p, h1, h2 μ hp.pz⟩
/-- A writer, and a row beside it that holds the same bytes. -/
def StW (TW TB : TypeId) (m0 μ : Mem) (i : Nat) (bs : List Int) (v : Value) : Prop :=
  ∃ ρ rw, Ext m0 μ ∧ m0.next ≤ i ∧ m0.next ≤ ρ ∧ Wr TW TB μ i ρ bs ∧ OwnI rw TB 1 μ v bs.length (byteCells bs) ∧ (v = .slice none 0 0 ∨ (m0.next ≤ rw ∧ rw ≠ i ∧ rw ≠ ρ))
theorem StW.step (wt : WTy P TB T) (hx : Ext m0 μ) (hi : m0.next ≤ i) (hρ : m0.next ≤ ρ) (w : Wr TW TB μ i ρ bs) (o : OwnI rw TB 1 μ v bs.length (byteCells bs)) (hs : v = .slice none 0 0 ∨ (m0.next ≤ rw ∧ rw ≠ i ∧ rw ≠ ρ))
    (w1 : Wr TW TB m1 i ρ1 (bs ++ c)) (n1 : ρ1 = ρ ∨ μ.next ≤ ρ1) (f1 : Fr2 i ρ μ m1) (x2 : Ext m1 m2) (n2 : m1.next ≤ r2) (b2 : Brow TB m2 r2 c) (hc : c ≠ []) (hl : (bs ++ c).length ≤ 140737488355328) :
    ∃ a q m3, opAppend P [T, T] [v, .slice (some ⟨r2, 0, none⟩) c.length 1] m2 = some (.slice a (bs ++ c).length q, m3) ∧ StW TW TB m0 m3 i (bs ++ c) (.slice a (bs ++ c).length q) := by
  have o2 : OwnI rw TB 1 m2 v bs.length (byteCells bs) := o.keepN (Nat.le_trans f1.1 x2.1) fun hv hr => by
    rcases hs with hs | ⟨h1, h2, h3⟩
    · exact (hv hs).elim
    · rw [x2.2 rw (Nat.lt_of_lt_of_le hr f1.1), f1.2 rw hr h2 h3]
  obtain ⟨a, q, m3, r', e1, e2, e3, e4, e5⟩ := o2.push (P := P) (t := T) (tx := T) wt.hT ⟨_, wt.hT⟩ wt.hs (by decide) wt.hz wt.hb (by decide) rfl rfl b2.own.rd.showsR (by rw [Nat.mul_one]; rw [List.length_append] at hl; exact hl)
  have hc0 : c.length ≠ 0 := fun h => hc (List.eq_nil_of_length_eq_zero h)
  have hr' : m2.next ≤ r' ∧ r' < m3.next := by
    rcases e3 with h | h
    · exact (hc0 h.1).elim
    · exact h
  rw [← List.length_append] at e1 e2
  rw [← byteCells_append] at e2
  have hρ1 : m0.next ≤ ρ1 := by have := hx.1; omega
  have hle : m0.next ≤ m2.next := by have := hx.1; have := f1.1; have := x2.1; omega
  have kept : ∀ j, j < m2.next → (j = rw → v = .slice none 0 0) → m3.get j = m2.get j := e5
  have hri : ∀ j, j = i ∨ j = ρ1 → j < m2.next → (j = rw → v = .slice none 0 0) := by
    rintro j hj hj2 rfl
    rcases hs with hs | ⟨h1, h2, h3⟩
    · exact hs
    · rcases hj with hj | hj
      · exact (h2 hj).elim
      · rcases n1 with n1 | n1
        · exact (h3 (hj.trans n1)).elim
        · obtain ⟨_, ⟨h4, h5⟩ | ⟨h4, _⟩⟩ := o
          · exact h5
          · omega
  have w2 := w1.ext x2
  have w3 : Wr TW TB m3 i ρ1 (bs ++ c) := w2.keep e4 (kept i w2.1 (hri i (.inl rfl) w2.1)) (kept ρ1 w2.2.1 (hri ρ1 (.inr rfl) w2.2.1))
  refine ⟨a, q, m3, e1, ρ1, r', ⟨by omega, fun j hj => ?_⟩, hi, hρ1, w3, e2, .inr ⟨by omega, by have := w2.1; omega, by have := w2.2.1; omega⟩⟩
  have hjm : j < m2.next := by omega
  rw [kept j hjm ?_, x2.2 j (by have := hx.1; have := f1.1; omega), f1.2 j (by have := hx.1; omega) (by omega) (by omega), hx.2 j hj]
  rintro rfl
  rcases hs with hs | ⟨h1, h2, h3⟩
  · exact hs
  · omega
theorem StW.made {m : Mem} : StW TW TB m (m.new (.cells [.slice none 0 0] TW true)) m.next [] (.slice none 0 0) := ⟨m.next, m.next, Ext.new _ _, Nat.le_refl _, Nat.le_refl _, Wr.made, OwnI.nil, .inl rfl⟩
end
section
variable {α : Type} {f : α → List Int}
theorem flat_succ (cs : List α) {j : Nat} (h : j < cs.length) : (cs.take (j + 1)).flatMap f = (cs.take j).flatMap f ++ f cs[j] := by
  rw [List.take_succ_eq_append_getElem h, List.flatMap_append]
  simp
theorem flat_at (cs : List α) {j : Nat} (h : j < cs.length) : cs.flatMap f = (cs.take j).flatMap f ++ (f cs[j] ++ (cs.drop (j + 1)).flatMap f) := by
  have e : cs = cs.take j ++ (cs[j] :: cs.drop (j + 1)) := by rw [← List.drop_eq_getElem_cons h, List.take_append_drop]
  have := congrArg (List.flatMap f) e
  rw [List.flatMap_append, List.flatMap_cons] at this
  exact this
theorem flat_len (cs : List α) {M : Nat} (h : ∀ c ∈ cs, (f c).length ≤ M) : (cs.flatMap f).length ≤ cs.length * M := by
  induction cs with
  | nil => simp
  | cons c r ih =>
    have h1 := h c (by simp)
    have h2 := ih fun c hc => h c (by simp [hc])
    rw [List.flatMap_cons, List.length_append, List.length_cons, Nat.add_mul, Nat.one_mul]
    omega
theorem flat_bytes (cs : List α) (h : ∀ c ∈ cs, Bytes (f c)) : Bytes (cs.flatMap f) := by
  intro b hb
  obtain ⟨c, hc, hb⟩ := List.mem_flatMap.1 hb
  exact h c hc b hb
end
end Go.AM.Wire
namespace Go.AM.Wire
open Go Go.AM
theorem Rr.ext {TR TB : TypeId} {m m' : Mem} {i r : Nat} {all : List Int} {s : Nat × Int} (h : Rr TR TB m i r all s) (x : Ext m m') : Rr TR TB m' i r all s := h.keep x.1 (x.2 _ h.1) (x.2 _ h.2.1)
end Go.AM.Wire
