/- Maps by keys that can be told apart; rows whose front is cut off. -/
import Derived.Test.YtimjcfaciiimmaaAmDat2
set_option linter.unusedSimpArgs false
set_option linter.unusedVariables false
set_option linter.unusedSectionVars false
namespace Go.AM
open Go

section
variable {κ α β : Type} [DecidableEq κ]
/-- What stands at a key. -/
def mget : List (κ × α) → κ → Option α
  | [], _ => none
  | p :: r, k => if k = p.1 then some p.2 else mget r k
def mput : List (κ × α) → κ → α → List (κ × α)
  | [], k, v => [(k, v)]
  | p :: r, k, v => if k = p.1 then (k, v) :: r else p :: mput r k v
def mdel : List (κ × α) → κ → List (κ × α)
  | [], _ => []
  | p :: r, k => if k = p.1 then r else p :: mdel r k

theorem mput_new {l : List (κ × α)} {k : κ} {v : α} (h : mget l k = none) : mput l k v = l ++ [(k, v)] := by
  induction l with
  | nil => rfl
  | cons p r ih =>
    simp only [mget] at h
    split at h
    · cases h
    · rename_i hk
      simp only [mput, if_neg hk, List.cons_append, ih h]
theorem mget_put (l : List (κ × α)) (k j : κ) (v : α) : mget (mput l k v) j = if j = k then some v else mget l j := by
  induction l with
  | nil => simp only [mput, mget]
  | cons p r ih =>
    simp only [mput]
    split
    · rename_i hk
      subst hk
      simp only [mget]
      split <;> rfl
    · rename_i hk
      simp only [mget, ih]
      by_cases h1 : j = k
      · subst h1
        simp only [if_neg hk, if_true]
      · simp only [if_neg h1]
theorem mget_none_of {l : List (κ × α)} {k : κ} (h : ∀ p ∈ l, p.1 ≠ k) : mget l k = none := by
  induction l with
  | nil => rfl
  | cons p r ih =>
    simp only [mget]
    rw [if_neg (fun e => h p (List.mem_cons_self ..) e.symm)]
    exact ih fun q hq => h q (List.mem_cons_of_mem _ hq)
theorem mget_mem {l : List (κ × α)} {k : κ} {v : α} (h : mget l k = some v) : (k, v) ∈ l := by
  induction l with
  | nil => cases h
  | cons p r ih =>
    simp only [mget] at h
    split at h
    · rename_i hk
      subst hk
      obtain rfl := Option.some.inj h
      exact List.mem_cons_self ..
    · exact List.mem_cons_of_mem _ (ih h)
theorem mget_some_of {l : List (κ × α)} {k : κ} (h : k ∈ l.map (·.1)) : ∃ v, mget l k = some v := by
  induction l with
  | nil => simp at h
  | cons p r ih =>
    simp only [mget]
    split
    · exact ⟨_, rfl⟩
    · rename_i hk
      simp only [List.map_cons, List.mem_cons] at h
      rcases h with h | h
      · exact (hk h).elim
      · exact ih h
theorem mput_keys {l : List (κ × α)} {k : κ} {v : α} : ∀ j, j ∈ (mput l k v).map (·.1) ↔ j = k ∨ j ∈ l.map (·.1) := by
  induction l with
  | nil => intro j; simp [mput]
  | cons p r ih =>
    intro j
    simp only [mput]
    split
    · rename_i hk
      subst hk
      simp
    · simp only [List.map_cons, List.mem_cons, ih]
      constructor
      · rintro (h | h | h) <;> simp [h]
      · rintro (h | h | h) <;> simp [h]
theorem mput_nodup {l : List (κ × α)} {k : κ} {v : α} (h : (l.map (·.1)).Nodup) : ((mput l k v).map (·.1)).Nodup := by
  induction l with
  | nil => simp [mput]
  | cons p r ih =>
    simp only [List.map_cons, List.nodup_cons] at h
    simp only [mput]
    split
    · rename_i hk
      subst hk
      simpa using h
    · rename_i hk
      simp only [List.map_cons, List.nodup_cons]
      exact ⟨fun hm => (mput_keys _).1 hm |>.elim (fun e => hk e.symm) h.1, ih h.2⟩
theorem mdel_sub {l : List (κ × α)} {k j : κ} (h : j ∈ (mdel l k).map (·.1)) : j ∈ l.map (·.1) := by
  induction l with
  | nil => simp [mdel] at h
  | cons p r ih =>
    simp only [mdel] at h
    split at h
    · simp only [List.map_cons, List.mem_cons]; exact .inr h
    · simp only [List.map_cons, List.mem_cons] at h ⊢
      exact h.imp id ih
theorem mdel_nodup {l : List (κ × α)} {k : κ} (h : (l.map (·.1)).Nodup) : ((mdel l k).map (·.1)).Nodup := by
  induction l with
  | nil => simp [mdel]
  | cons p r ih =>
    simp only [List.map_cons, List.nodup_cons] at h
    simp only [mdel]
    split
    · exact h.2
    · simp only [List.map_cons, List.nodup_cons]
      exact ⟨fun hm => h.1 (mdel_sub hm), ih h.2⟩
theorem mget_del {l : List (κ × α)} (h : (l.map (·.1)).Nodup) (k j : κ) : mget (mdel l k) j = if j = k then none else mget l j := by
  induction l with
  | nil => simp [mdel, mget]
  | cons p r ih =>
    simp only [List.map_cons, List.nodup_cons] at h
    simp only [mdel]
    split
    · rename_i hk
      subst hk
      split
      · rename_i hj
        subst hj
        exact mget_none_of fun q hq e => h.1 (by rw [← e]; exact List.mem_map_of_mem hq)
      · rename_i hj
        simp only [mget, if_neg hj]
    · rename_i hk
      simp only [mget, ih h.2]
      by_cases hj : j = k
      · subst hj
        simp only [if_neg hk, if_true]
      · simp only [if_neg hj]

/-- Values, told by a relation. -/
def Pw (R : α → β → Prop) : List (κ × α) → List (κ × β) → Prop
  | [], [] => True
  | p :: r, q :: s => p.1 = q.1 ∧ R p.2 q.2 ∧ Pw R r s
  | _, _ => False
theorem Pw.mono {R R' : α → β → Prop} (h : ∀ a b, R a b → R' a b) : ∀ {l : List (κ × α)} {k : List (κ × β)}, Pw R l k → Pw R' l k
  | [], [], _ => trivial
  | _ :: _, _ :: _, ⟨h1, h2, h3⟩ => ⟨h1, h _ _ h2, h3.mono h⟩
  | [], _ :: _, h => h.elim
  | _ :: _, [], h => h.elim
theorem Pw.length {R : α → β → Prop} : ∀ {l : List (κ × α)} {k : List (κ × β)}, Pw R l k → l.length = k.length
  | [], [], _ => rfl
  | _ :: _, _ :: _, ⟨_, _, h3⟩ => by simp [h3.length]
  | [], _ :: _, h => h.elim
  | _ :: _, [], h => h.elim
theorem Pw.get {R : α → β → Prop} (k : κ) : ∀ {l : List (κ × α)} {s : List (κ × β)}, Pw R l s → (mget l k = none ∧ mget s k = none) ∨ ∃ a b, mget l k = some a ∧ mget s k = some b ∧ R a b
  | [], [], _ => .inl ⟨rfl, rfl⟩
  | p :: l, q :: s, ⟨h1, h2, h3⟩ => by
    simp only [mget, h1]
    by_cases h : k = q.1
    · simp only [if_pos h]
      exact .inr ⟨_, _, rfl, rfl, h2⟩
    · simp only [if_neg h]
      exact h3.get k
  | [], _ :: _, h => h.elim
  | _ :: _, [], h => h.elim
theorem Pw.put {R : α → β → Prop} {k : κ} {a : α} {b : β} (hr : R a b) : ∀ {l : List (κ × α)} {s : List (κ × β)}, Pw R l s → Pw R (mput l k a) (mput s k b)
  | [], [], _ => ⟨rfl, hr, trivial⟩
  | p :: l, q :: s, ⟨h1, h2, h3⟩ => by
    simp only [mput, h1]
    by_cases h : k = q.1
    · simp only [if_pos h]
      exact ⟨rfl, hr, h3⟩
    · simp only [if_neg h]
      exact ⟨h1, h2, h3.put hr⟩
  | [], _ :: _, h => h.elim
  | _ :: _, [], h => h.elim
theorem Pw.del {R : α → β → Prop} {k : κ} : ∀ {l : List (κ × α)} {s : List (κ × β)}, Pw R l s → Pw R (mdel l k) (mdel s k)
  | [], [], _ => trivial
  | p :: l, q :: s, ⟨h1, h2, h3⟩ => by
    simp only [mdel, h1]
    by_cases h : k = q.1
    · simp only [if_pos h]
      exact h3
    · simp only [if_neg h]
      exact ⟨h1, h2, h3.del⟩
  | [], _ :: _, h => h.elim
  | _ :: _, [], h => h.elim
end

section
variable {P : Program} {kt et t : TypeId} {κ α : Type} [DecidableEq κ] {m m' : Mem} {enc : κ → Value} {R : Value → α → Prop} {r : Nat} {s : List (κ × α)}

/-- Keys of a type, as values. -/
structure KeyOk (P : Program) (kt : TypeId) (enc : κ → Value) : Prop where
  fit : ∀ a, keyFit P 40 kt (enc a) = true
  eq : ∀ a b, eqIn P 40 kt (enc a) (enc b) = some (decide (a = b))
  same : ∀ a, keySame (enc a) (enc a) = true

def ents (enc : κ → Value) (l : List (κ × Value)) : List (Value × Value) := l.map fun p => (enc p.1, p.2)
theorem ents_length (l : List (κ × Value)) : (ents enc l).length = l.length := List.length_map _

theorem mfind_none (hk : KeyOk P kt enc) {k : κ} : ∀ {l : List (κ × Value)} {i : Nat}, mget l k = none → mfind P kt (enc k) (ents enc l) i = some none
  | [], _, _ => rfl
  | p :: l, i, h => by
    simp only [mget] at h
    split at h
    · cases h
    · rename_i hn
      simp only [ents, List.map_cons, mfind, hk.eq, decide_eq_false hn]
      exact mfind_none hk h
theorem mfind_some (hk : KeyOk P kt enc) {k : κ} {v : Value} : ∀ {l : List (κ × Value)} {i : Nat}, mget l k = some v → ∃ j, mfind P kt (enc k) (ents enc l) i = some (some (i + j, v)) ∧ (∃ e, (ents enc l)[j]? = some e ∧ e.1 = enc k) ∧
    (∀ u, (ents enc l).set j (enc k, u) = ents enc (mput l k u)) ∧ (ents enc l).eraseIdx j = ents enc (mdel l k)
  | [], _, h => by cases h
  | p :: l, i, h => by
    simp only [mget] at h
    split at h
    · rename_i hp
      obtain rfl := Option.some.inj h
      refine ⟨0, ?_, ⟨_, rfl, by rw [hp]⟩, fun u => ?_, ?_⟩
      · simp only [ents, List.map_cons, mfind, hk.eq, decide_eq_true hp, Nat.add_zero]
      · simp only [ents, List.map_cons, List.set_cons_zero, mput, if_pos hp]
      · simp only [ents, List.map_cons, List.eraseIdx_cons_zero, mdel, if_pos hp]
    · rename_i hp
      obtain ⟨j, h1, ⟨e, h2, h3⟩, h4, h5⟩ := mfind_some hk (i := i + 1) h
      refine ⟨j + 1, ?_, ⟨e, ?_, h3⟩, fun u => ?_, ?_⟩
      · simp only [ents, List.map_cons, mfind, hk.eq, decide_eq_false hp]
        simp only [ents] at h1
        rw [h1]
        simp only [Nat.add_assoc, Nat.add_comm 1 j]
      · simpa [ents] using h2
      · have := h4 u
        simp only [ents] at this
        simp only [ents, List.map_cons, List.set_cons_succ, mput, if_neg hp, this]
      · simp only [ents] at h5
        simp only [ents, List.map_cons, List.eraseIdx_cons_succ, mdel, if_neg hp, h5]

/-- A map in block r. -/
def MapIs (m : Mem) (r : Nat) (enc : κ → Value) (R : Value → α → Prop) (s : List (κ × α)) : Prop := ∃ l : List (κ × Value), m.get r = some (.map (ents enc l)) ∧ Pw R l s
theorem MapIs.keep (h : MapIs m r enc R s) (hr : m'.get r = m.get r) : MapIs m' r enc R s := let ⟨l, h1, h2⟩ := h; ⟨l, hr.trans h1, h2⟩
theorem MapIs.mono {R' : Value → α → Prop} (h : MapIs m r enc R s) (hR : ∀ v a, R v a → R' v a) : MapIs m r enc R' s := let ⟨l, h1, h2⟩ := h; ⟨l, h1, h2.mono hR⟩
theorem MapIs.nil : MapIs (m.new (.map [])) m.next enc R ([] : List (κ × α)) := ⟨[], new_get _ _, trivial⟩

theorem MapIs.lookup (h : MapIs m r enc R s) (hk : KeyOk P kt enc) (ht : P.underlying t = some (.map kt et)) {k : κ} {a : α} (hg : mget s k = some a) (two : Bool) :
    ∃ v, R v a ∧ opLookup P t (.map (some r)) (enc k) two m = some (if two then .tuple #[v, .bool true] else v) := by
  obtain ⟨l, h1, h2⟩ := h
  rcases h2.get k with ⟨_, h3⟩ | ⟨v, b, h3, h4, h5⟩
  · rw [hg] at h3; cases h3
  · rw [hg] at h4
    obtain rfl := Option.some.inj h4
    obtain ⟨j, h6, _⟩ := mfind_some hk (i := 0) h3
    exact ⟨v, h5, by simp only [opLookup, ht, mapAt, h1, hk.fit, if_true, h6]⟩
theorem MapIs.absent (h : MapIs m r enc R s) (hk : KeyOk P kt enc) (ht : P.underlying t = some (.map kt et)) {z : Value} (hz : tzero P et = some z) (hzk : zeroOk z = true) {k : κ} (hg : mget s k = none) (two : Bool) :
    opLookup P t (.map (some r)) (enc k) two m = some (if two then .tuple #[z, .bool false] else z) := by
  obtain ⟨l, h1, h2⟩ := h
  rcases h2.get k with ⟨h3, _⟩ | ⟨v, b, h3, h4, h5⟩
  · simp only [opLookup, ht, mapAt, h1, hk.fit, if_true, mfind_none hk h3, hz, hzk]
  · rw [hg] at h4; cases h4
theorem MapIs.update (h : MapIs m r enc R s) (hk : KeyOk P kt enc) (ht : P.underlying t = some (.map kt et)) (k : κ) {v : Value} {a : α} (hr : R v a) :
    ∃ es, opMapUpdate P t (.map (some r)) (enc k) v m = some (m.set r (.map es)) ∧ MapIs (m.set r (.map es)) r enc R (mput s k a) := by
  obtain ⟨l, h1, h2⟩ := h
  cases hg : mget l k with
  | none =>
    refine ⟨ents enc (mput l k v), ?_, _, set_get _ _ _, h2.put hr⟩
    simp only [opMapUpdate, ht, h1, hk.fit, if_true, mfind_none hk hg]
    rw [mput_new hg]
    simp [ents]
  | some u =>
    obtain ⟨j, h6, ⟨e, h7, h8⟩, h9, _⟩ := mfind_some hk (i := 0) hg
    refine ⟨ents enc (mput l k v), ?_, _, set_get _ _ _, h2.put hr⟩
    rw [Nat.zero_add] at h6
    simp only [opMapUpdate, ht, h1, hk.fit, if_true, h6, h7, h8, hk.same, h9]
theorem MapIs.delete (h : MapIs m r enc R s) (hk : KeyOk P kt enc) (ht : P.underlying t = some (.map kt et)) {u : TypeId} (k : κ) :
    ∃ es, opDelete P [t, u] [.map (some r), enc k] m = some (.tuple #[], m.set r (.map es)) ∧ MapIs (m.set r (.map es)) r enc R (mdel s k) := by
  obtain ⟨l, h1, h2⟩ := h
  cases hg : mget l k with
  | none =>
    refine ⟨ents enc l, ?_, l, set_get _ _ _, ?_⟩
    · simp only [opDelete, ht, h1, hk.fit, if_true, mfind_none hk hg]
    · have hs : mget s k = none := by
        rcases h2.get k with ⟨_, h⟩ | ⟨a, b, h, _⟩
        · exact h
        · rw [hg] at h; cases h
      have hd : ∀ {s : List (κ × α)}, mget s k = none → mdel s k = s := by
        intro s
        induction s with
        | nil => intro _; rfl
        | cons p q ih =>
          intro h
          simp only [mget] at h
          split at h
          · cases h
          · rename_i hp
            simp only [mdel, if_neg hp, ih h]
      rw [hd hs]
      exact h2
  | some v =>
    obtain ⟨j, h6, _, _, h9⟩ := mfind_some hk (i := 0) hg
    refine ⟨ents enc (mdel l k), ?_, _, set_get _ _ _, h2.del⟩
    rw [Nat.zero_add] at h6
    simp only [opDelete, ht, h1, hk.fit, if_true, h6, h9]
theorem MapIs.len (h : MapIs m r enc R s) (ht : P.underlying t = some (.map kt et)) : opMapLen P (some t) (.map (some r)) m = some (.int .i64 s.length) := by
  obtain ⟨l, h1, h2⟩ := h
  simp only [opMapLen, ht, mapAt, h1, ents_length, h2.length]
theorem nil_lookup (hk : KeyOk P kt enc) (ht : P.underlying t = some (.map kt et)) {z : Value} (hz : tzero P et = some z) (hzk : zeroOk z = true) {k : κ} (two : Bool) :
    opLookup P t (.map none) (enc k) two m = some (if two then .tuple #[z, .bool false] else z) := by
  simp only [opLookup, ht, mapAt, hk.fit, if_true, mfind, hz, hzk]
theorem opLen_map (ht : P.underlying t = some (.map kt et)) {x : Value} : opLen P (some t) x = none := by
  simp only [opLen, ht]
end

theorem veq_map {a : Option Nat} : veq (.map a) (.map a) = true := by simp [veq, veqCell]
theorem veq_ints {k l : IntKind} {a b : Int} : veq (.agg #[.int k a, .int l b]) (.agg #[.int k a, .int l b]) = true := by simp [veq, veqList, veqCell]
theorem veq_int3 {k l : IntKind} {a b : Int} {q : Option Addr} {n z : Nat} : veq (.agg #[.int k a, .int l b, .slice q n z]) (.agg #[.int k a, .int l b, .slice q n z]) = true := by simp [veq, veqList, veqCell]
theorem readOk_lk {S : Nat → Prop} {env : Env} {t : TypeId} {a k : Operand} {two : Bool} : readOk S env (.lookup t a k two) = match ev1 env a with
    | some (.map (some i)) => S i
    | _ => True := rfl
theorem readB_lk {env : Env} {t : TypeId} {a k : Operand} {two : Bool} {b : Nat} : readB env (.lookup t a k two) b = match ev1 env a with
    | some (.map (some i)) => b = i
    | _ => False := rfl

section
variable {P : Program} {t tx e : TypeId} {m m' : Mem} {sz n r : Nat} {v z x : Value} {cs c new : List Value}
/-- A row of one's own whose front may be cut off. -/
def OwnQ (r : Nat) (e : TypeId) (sz : Nat) (m : Mem) (v : Value) (n : Nat) (cs : List Value) : Prop :=
  cs.length = n * sz ∧ ((n = 0 ∧ v = .slice none 0 0) ∨ ∃ pre : List Value, r < m.next ∧ v = .slice (some ⟨r, pre.length, none⟩) n sz ∧ m.get r = some (.cells (pre ++ cs) e true))
theorem OwnQ.nil : OwnQ r e sz m (.slice none 0 0) 0 [] := ⟨by simp, .inl ⟨rfl, rfl⟩⟩
theorem OwnQ.keep (h : OwnQ r e sz m v n cs) (hn : m.next ≤ m'.next) (hx : r < m.next → m'.get r = m.get r) : OwnQ r e sz m' v n cs := by
  obtain ⟨h0, h | ⟨pre, h1, h2, h3⟩⟩ := h
  · exact ⟨h0, .inl h⟩
  · exact ⟨h0, .inr ⟨pre, by omega, h2, (hx h1).trans h3⟩⟩
theorem OwnQ.keepN (h : OwnQ r e sz m v n cs) (hn : m.next ≤ m'.next) (hx : v ≠ .slice none 0 0 → r < m.next → m'.get r = m.get r) : OwnQ r e sz m' v n cs := by
  obtain ⟨h0, h | ⟨pre, h1, h2, h3⟩⟩ := h
  · exact ⟨h0, .inl h⟩
  · exact ⟨h0, .inr ⟨pre, by omega, h2, (hx (by rw [h2]; simp) h1).trans h3⟩⟩
theorem OwnQ.len (h : OwnQ r e sz m v n cs) (ht : P.underlying t = some (.slice e)) : opLen P (some t) v = some (.int .i64 n) := by
  obtain ⟨_, ⟨rfl, rfl⟩ | ⟨pre, _, rfl, _⟩⟩ := h <;> simp only [opLen, ht] <;> rfl
theorem OwnQ.is (h : OwnQ r e sz m v n cs) : ∃ a q, v = .slice a n q := by
  obtain ⟨_, ⟨rfl, rfl⟩ | ⟨pre, _, rfl, _⟩⟩ := h <;> exact ⟨_, _, rfl⟩
theorem OwnQ.push {b : Nat} (h : OwnQ r e sz m v n cs) (ht : P.underlying t = some (.slice e)) (hx : ∃ y, P.underlying tx = some (.slice y)) (hs : tsize P e = some sz) (hs0 : 0 < sz) (hz : tzero P e = some z) (hb : tbytes P e = some b) (hb0 : 0 < b) (hc : z.cells.size = sz) (hzk : zeroOk z = true)
    {k : Nat} (hv : ShowsR sz m x k new) (hk : 0 < k) (hn : (n + k) * b ≤ 140737488355328) :
    ∃ m', opAppend P [t, tx] [v, x] m = some (.slice (some ⟨m.next, 0, none⟩) (n + k) sz, m') ∧ OwnQ m.next e sz m' (.slice (some ⟨m.next, 0, none⟩) (n + k) sz) (n + k) (cs ++ new) ∧ m'.next = m.next + 1 ∧ ∀ j, j < m.next → (j = r → v = .slice none 0 0) → m'.get j = m.get j := by
  obtain ⟨a0, q0, rfl, hsh, hl⟩ := hv
  obtain ⟨y, hy⟩ := hx
  have had : addedBy P (some tx) sz z (.slice a0 k q0) m = some (k, new) := by
    simp only [addedBy, hy, hsh]
  have h0 : ¬ k = 0 := by omega
  obtain ⟨hlen, ⟨rfl, rfl⟩ | ⟨pre, h1, rfl, h3⟩⟩ := h
  · refine ⟨m.new (.cells new e true), ?_, ⟨?_, .inr ⟨[], Nat.lt_succ_self _, rfl, ?_⟩⟩, rfl, fun j hj _ => new_get_ne _ (by omega)⟩
    · have hcs : cs = [] := List.eq_nil_of_length_eq_zero (by simpa using hlen)
      simp only [opAppend, ht, hs, hz, hb, hzk, hs0, hb0, hc, List.head?_cons, had, and_self, if_true]
      rw [if_neg h0, if_pos (by omega)]
      simp
    · rw [List.length_append, hlen, hl, Nat.add_mul]
    · have hcs : cs = [] := List.eq_nil_of_length_eq_zero (by simpa using hlen)
      rw [hcs]
      exact new_get _ _
  · refine ⟨(m.kill r).new (.cells (cs ++ new) e true), ?_, ⟨?_, .inr ⟨[], Nat.lt_succ_self _, rfl, ?_⟩⟩, rfl, fun j hj hr => ?_⟩
    · simp only [opAppend, ht, hs, hz, hb, hzk, hs0, hb0, hc, List.head?_cons, had, and_self, if_true]
      rw [if_neg h0, if_pos hn]
      simp only [h3]
      rw [if_pos ⟨trivial, trivial, by rw [List.length_append, hlen]⟩]
      simp
    · rw [List.length_append, hlen, hl, Nat.add_mul]
    · have := new_get (m.kill r) (.cells (cs ++ new) e true)
      exact this
    · rw [new_get_ne _ (by simp only [kill_next]; omega), kill_get_ne (fun e => by have := hr e; simp at this)]
/-- The front, read. -/
theorem OwnQ.front (h : OwnQ r e sz m v n cs) (hn : 0 < n) (ht : P.underlying t = some (.slice e)) (hs : tsize P e = some sz) (ha : aggOf P e = some true) :
    ∃ off, opIndexAddr P t v (.int .i64 0) = some (.pointer (some ⟨r, off, none⟩)) ∧ r < m.next ∧ opLoad P e (.pointer (some ⟨r, off, none⟩)) m = some (.agg (cs.take sz).toArray) := by
  obtain ⟨hlen, ⟨rfl, _⟩ | ⟨pre, h1, rfl, h3⟩⟩ := h
  · omega
  · refine ⟨pre.length, ?_, h1, ?_⟩
    · simp only [opIndexAddr, ht, hs]
      rw [if_pos (by omega)]
      simp
    · simp only [opLoad, h3, ha, hs]
      have : sz ≤ n * sz := Nat.le_mul_of_pos_left _ hn
      rw [if_pos (by rw [List.length_append, hlen]; omega)]
      simp
/-- The front, cut off. -/
theorem OwnQ.tail (h : OwnQ r e sz m v n cs) (hn : 0 < n) (ht : P.underlying t = some (.slice e)) (hs : tsize P e = some sz) :
    ∃ a, opSlice P t v (some (.int .i64 1)) none = some (.slice a (n - 1) sz) ∧ OwnQ r e sz m (.slice a (n - 1) sz) (n - 1) (cs.drop sz) := by
  obtain ⟨hlen, ⟨rfl, _⟩ | ⟨pre, h1, rfl, h3⟩⟩ := h
  · omega
  · have hle : sz ≤ n * sz := Nat.le_mul_of_pos_left _ hn
    refine ⟨some ⟨r, pre.length + sz, none⟩, ?_, ?_, .inr ⟨pre ++ cs.take sz, h1, ?_, ?_⟩⟩
    · simp only [opSlice, ht, boundOf, hs]
      rw [if_pos (by decide)]
      simp only [Int.toNat_one, Nat.one_mul, if_true]
      rw [if_pos (by omega)]
    · rw [List.length_drop, hlen, Nat.sub_mul, Nat.one_mul]
    · rw [List.length_append, List.length_take, Nat.min_eq_left (by omega)]
    · rw [h3, List.append_assoc, List.take_append_drop]
end
end Go.AM
