/- Rows of one's own: reading, storing, appending, turning into strings. -/
import Derived.Test.YtimjcfaciiimmaaAmShown
set_option linter.unusedSimpArgs false
set_option linter.unusedVariables false
namespace Go.AM
open Go
variable {P : Program} {t tx e : TypeId} {m m' : Mem} {k : Nat} {v x z : Value} {cs new : List Value}

/-- A row of one's own, in a block that is no older than k. -/
def OwnS (k : Nat) (e : TypeId) (m : Mem) (v : Value) (cs : List Value) : Prop :=
  (cs = [] ∧ v = .slice none 0 0) ∨ ∃ i, k ≤ i ∧ i < m.next ∧ v = .slice (some ⟨i, 0, none⟩) cs.length 1 ∧ m.get i = some (.cells cs e true)

theorem OwnS.nil {k : Nat} {e : TypeId} {m : Mem} : OwnS k e m (.slice none 0 0) [] := .inl ⟨rfl, rfl⟩
theorem OwnS.fresh {k : Nat} {e : TypeId} {m : Mem} {cs : List Value} {n : Nat} (h : k ≤ m.next) (hn : cs.length = n) : OwnS k e (m.new (.cells cs e true)) (.slice (some ⟨m.next, 0, none⟩) n 1) cs :=
  .inr ⟨m.next, h, Nat.lt_succ_self _, by rw [hn], new_get _ _⟩
theorem OwnS.shows (h : OwnS k e m v cs) : Shows m v cs := by
  rcases h with ⟨rfl, rfl⟩ | ⟨i, _, _, rfl, hg⟩
  · exact Shows.nil m
  · exact Shows.whole hg
theorem OwnS.under (h : OwnS k e m v cs) : Under m.next v := by
  intro i off sp n z he
  rcases h with ⟨_, rfl⟩ | ⟨j, _, hj, rfl, _⟩
  · simp at he
  · simp only [Value.slice.injEq, Option.some.injEq, Addr.mk.injEq] at he
    omega
theorem OwnS.keep (h : OwnS k e m v cs) (hx : Ext m m') : OwnS k e m' v cs := by
  rcases h with h | ⟨i, h1, h2, h3, h4⟩
  · exact .inl h
  · exact .inr ⟨i, h1, Nat.lt_of_lt_of_le h2 hx.1, h3, (hx.2 i h2).trans h4⟩
theorem OwnS.mono {l : Nat} (h : OwnS k e m v cs) (hl : l ≤ k) : OwnS l e m v cs := by
  rcases h with h | ⟨i, h1, h2, h3, h4⟩
  · exact .inl h
  · exact .inr ⟨i, Nat.le_trans hl h1, h2, h3, h4⟩

theorem OwnS.store (h : OwnS k e m v cs) (ht : P.underlying t = some (.slice e)) (hs : tsize P e = some 1) {j : Nat} (hj : j < cs.length) (hx : okCell x = true) :
    ∃ p m', opIndexAddr P t v (.int .i64 j) = some (.pointer p) ∧ opStore P e (.pointer p) x m = some m' ∧ OwnS k e m' v (cs.set j x) ∧ ∀ m0 : Mem, m0.next ≤ k → Ext m0 m → Ext m0 m' := by
  rcases h with ⟨rfl, rfl⟩ | ⟨i, h1, h2, rfl, h4⟩
  · simp at hj
  · refine ⟨some ⟨i, j, none⟩, m.set i (.cells (cs.set j x) e true), index_own ht hs hj, store_one h4 hs hx hj, .inr ⟨i, h1, h2, by rw [List.length_set], set_get _ _ _⟩, fun m0 hk hm => hm.set (by omega)⟩

/-- What is appended, as a row of cells. -/
theorem OwnS.push {b : Nat} (h : OwnS k e m v cs) (hk : k ≤ m.next) (ht : P.underlying t = some (.slice e)) (hs : tsize P e = some 1) (hz : tzero P e = some z) (hb : tbytes P e = some b) (hb0 : 0 < b) (hc : z.cells.size = 1) (hzk : zeroOk z = true)
    (ha : addedBy P (some tx) 1 z x m = some (new.length, new)) (hn : (cs.length + new.length) * b ≤ 140737488355328) :
    ∃ w m', opAppend P [t, tx] [v, x] m = some (w, m') ∧ OwnS k e m' w (cs ++ new) ∧ ∀ m0 : Mem, m0.next ≤ k → Ext m0 m → Ext m0 m' := by
  by_cases h0 : new.length = 0
  · have hnew : new = [] := List.eq_nil_of_length_eq_zero h0
    subst hnew
    refine ⟨v, m, ?_, by simpa using h, fun m0 _ hm => hm⟩
    rcases h with ⟨rfl, rfl⟩ | ⟨i, h1, h2, rfl, h4⟩
    · simp only [opAppend, ht, hs, hz, hb, hzk, hc, List.head?_cons, ha]
      rw [if_pos ⟨trivial, Nat.one_pos, hb0, trivial⟩]
      simp
    · simp only [opAppend, ht, hs, hz, hb, hzk, hc, List.head?_cons, ha]
      rw [if_pos ⟨trivial, Nat.one_pos, hb0, trivial⟩]
      simp
  · rcases h with ⟨rfl, rfl⟩ | ⟨i, h1, h2, rfl, h4⟩
    · refine ⟨.slice (some ⟨m.next, 0, none⟩) new.length 1, m.new (.cells new e true), ?_, .inr ⟨m.next, hk, Nat.lt_succ_self _, by simp, ?_⟩, fun m0 hk2 hm => hm.trans (Ext.new _ _)⟩
      · simp only [opAppend, ht, hs, hz, hb, hzk, hc, List.head?_cons, ha]
        rw [if_pos ⟨trivial, Nat.one_pos, hb0, trivial⟩, if_neg h0, if_pos (by have q := hn; simp only [List.length_nil] at q; exact q)]
      · simp [new_get]
    · refine ⟨.slice (some ⟨m.next, 0, none⟩) (cs.length + new.length) 1, (m.kill i).new (.cells (cs ++ new) e true), ?_, .inr ⟨m.next, hk, Nat.lt_succ_self _, by simp, ?_⟩, fun m0 hk2 hm => (hm.kill (by omega)).trans (Ext.new _ _)⟩
      · simp only [opAppend, ht, hs, hz, hb, hzk, hc, List.head?_cons, ha]
        rw [if_pos ⟨trivial, Nat.one_pos, hb0, trivial⟩, if_neg h0, if_pos hn, h4]
        simp
      · have := new_get (m.kill i) (.cells (cs ++ new) e true)
        rw [kill_next] at this
        exact this

theorem added_row {y : TypeId} (ht : P.underlying tx = some (.slice y)) (h : Shows m x new) : addedBy P (some tx) 1 z x m = some (new.length, new) := by
  obtain ⟨a, q, rfl, hs, _⟩ := h
  simp only [addedBy, ht, hs]
theorem added_zeros {n : Nat} {N : Int} {ik : IntKind} (ht : P.underlying tx = some (.int ik)) (hN : N = n) (hn : n ≤ 140737488355328) (hc : z.cells = #[z]) : addedBy P (some tx) 1 z (.int .i64 N) m = some ((List.replicate n z).length, List.replicate n z) := by
  subst hN
  simp only [addedBy, ht, Int.toNat_natCast, Nat.mul_one, hc, zeroRow_one, List.length_replicate]
  rw [if_pos (by omega)]
theorem added_string {y : ByteArray} (ht : P.underlying tx = some .string) : addedBy P (some tx) 1 z (.string y) m = some ((cellsOfBytes y).length, cellsOfBytes y) := by
  have : (cellsOfBytes y).length = y.size := by unfold cellsOfBytes; rw [List.length_map, Array.length_toList]; rfl
  simp only [addedBy, ht, this, if_true]

theorem veq_string {y : ByteArray} : veq (.string y) (.string y) = true := by simp [veq, veqCell]
theorem veq_int {ik : IntKind} {n : Int} : veq (.int ik n) (.int ik n) = true := by simp [veq, veqCell]
theorem veq_bool {b : Bool} : veq (.bool b) (.bool b) = true := by cases b <;> rfl
theorem veq_slice {a : Option Addr} {n c : Nat} : veq (.slice a n c) (.slice a n c) = true := by simp [veq, veqCell]
theorem veq_pointer {a : Option Addr} : veq (.pointer a) (.pointer a) = true := by simp [veq, veqCell]
theorem readOk_convert {k : Nat} {env : Env} {a b : TypeId} {o : Operand} {v : Value} (h : ev1 env o = some v) (hu : Under k v) : readOk (fun i => i < k) env (.convert a b o) := by
  simp only [readOk, h]
  split
  · rename_i i off sp n z he
    simp only [Option.some.injEq] at he
    subst he
    exact hu i off sp n z rfl
  · trivial
theorem readOk_load {k i off : Nat} {sp : Option Nat} {env : Env} {a : TypeId} {o : Operand} (h : ev1 env o = some (.pointer (some ⟨i, off, sp⟩))) (hu : i < k) : readOk (fun i => i < k) env (.load a o) := by
  simp only [readOk, h]
  exact hu
theorem readOk_loadS {S : Nat → Prop} {i off : Nat} {sp : Option Nat} {env : Env} {a : TypeId} {o : Operand} (h : ev1 env o = some (.pointer (some ⟨i, off, sp⟩))) (hu : S i) : readOk S env (.load a o) := by
  simp only [readOk, h]
  exact hu
/-- The blocks that are older than k are kept. -/
theorem Loose.old {ops : Array Oper} {js : List Nat} {K : KontE} {env : Env} {m : Mem} (h : @wpu P ops js (fun i => i < m.next) ops.size (List.range' 0 ops.size) K env m) : @Loose P ops js K env m := .inl ⟨_, ops.size, by simp [stopB], h⟩
theorem Loose.by (S : Nat → Prop) {ops : Array Oper} {js : List Nat} {K : KontE} {env : Env} {m : Mem} (h : @wpu P ops js S ops.size (List.range' 0 ops.size) K env m) : @Loose P ops js K env m := .inl ⟨S, ops.size, by simp [stopB], h⟩
theorem Loose.upto (S : Nat → Prop) (e : Nat) {ops : Array Oper} {js : List Nat} {K : KontE} {env : Env} {m : Mem} (hs : stopB ops js e = true) (h : @wpu P ops js S e (List.range' 0 ops.size) K env m) : @Loose P ops js K env m := .inl ⟨S, e, hs, h⟩
/-- Readings of blocks that the region itself makes. -/
theorem Loose.fresh (lo : List (Nat × Nat)) {ops : Array Oper} {js : List Nat} {K : KontE} {env : Env} {m : Mem} (hl : loB ops js lo = true) (h : @wpv P ops lo ops.size (List.range' 0 ops.size) [] [] (fun _ => False) K env m) : @Loose P ops js K env m := .inr ⟨lo, ops.size, hl, by simp [stopB], h⟩

/-- .. whose last writing stands behind all readings. -/
theorem Loose.freshTo (lo : List (Nat × Nat)) (e : Nat) {ops : Array Oper} {js : List Nat} {K : KontE} {env : Env} {m : Mem} (hl : loB ops js lo = true) (hs : stopB ops js e = true) (h : @wpv P ops lo e (List.range' 0 ops.size) [] [] (fun _ => False) K env m) : @Loose P ops js K env m := .inr ⟨lo, e, hl, hs, h⟩

/-- Bytes as a string. -/
def strOf (bs : List Int) : ByteArray := ⟨(bs.map fun n => UInt8.ofNat n.toNat).toArray⟩
theorem bytesOf_ints (bs : List Int) : bytesOfCells (bs.map (.int .u8)) = some (bs.map fun n => UInt8.ofNat n.toNat) := by
  induction bs with
  | nil => rfl
  | cons b r ih => simp only [List.map_cons, bytesOfCells, ih]
theorem conv_string {y : TypeId} {bs : List Int} (ht : P.underlying t = some (.slice e)) (he : P.underlying e = some (.int .u8)) (hy : P.underlying y = some .string) (h : Shows m v (bs.map (.int .u8))) : opConvert P t y v m = some (.string (strOf bs), m) := by
  obtain ⟨a, q, rfl, hs, _⟩ := h
  simp only [opConvert, ht, he, hy, hs, bytesOf_ints]
  rfl
theorem strOf_append (xs ys : List Int) : strOf (xs ++ ys) = strOf xs ++ strOf ys := by
  refine ByteArray.ext ?_
  simp [strOf, ByteArray.data_append]
theorem strOf_inj {xs ys : List Int} (hx : ∀ b ∈ xs, 0 ≤ b ∧ b < 256) (hy : ∀ b ∈ ys, 0 ≤ b ∧ b < 256) (h : strOf xs = strOf ys) : xs = ys := by
  have h1 : xs.map (fun n => UInt8.ofNat n.toNat) = ys.map fun n => UInt8.ofNat n.toNat := by
    have := congrArg (fun b : ByteArray => b.data.toList) h
    simpa [strOf] using this
  have hl : xs.length = ys.length := by simpa using congrArg List.length h1
  refine List.ext_getElem hl fun i q1 q2 => ?_
  have h2 := congrArg (fun l : List UInt8 => l[i]?) h1
  simp only [List.getElem?_map, List.getElem?_eq_getElem q1, List.getElem?_eq_getElem q2, Option.map_some, Option.some.injEq] at h2
  have a := hx xs[i] (List.getElem_mem _)
  have b := hy ys[i] (List.getElem_mem _)
  have h3 := congrArg UInt8.toNat h2
  simp only [UInt8.toNat_ofNat'] at h3
  omega
theorem strOf_size (xs : List Int) : (strOf xs).size = xs.length := by simp [strOf, ByteArray.size]
end Go.AM
