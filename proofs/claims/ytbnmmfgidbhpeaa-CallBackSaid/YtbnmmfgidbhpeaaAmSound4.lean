/- What the abstract machine does in one operation, the machine does: new blocks, stores. -/
import Derived.Test.YtbnmmfgidbhpeaaAmSound3
import Derived.Laws.IdiomStrings
import Derived.Laws.CopyRow
set_option linter.unusedSimpArgs false
set_option linter.unusedVariables false
set_option linter.unusedSimpArgs false
set_option linter.unusedVariables false
namespace Go.AM
open Go
variable {P : Program} {β : Ren} {m : Mem} {w : World}

def Ren.add (β : Ren) (i : Nat) (L : Loc) : Ren := fun j => if j = i then some L else β j

theorem Ren.add_self (β : Ren) (i : Nat) (L : Loc) : β.add i L i = some L := by simp [Ren.add]
theorem Ren.add_ne (β : Ren) {i j : Nat} (L : Loc) (h : j ≠ i) : β.add i L j = β j := by simp [Ren.add, h]
theorem Ren.add_le {β : Ren} {i : Nat} (L : Loc) (h : β i = none) : Le β (β.add i L) := by
  intro j M hj
  by_cases e : j = i
  · subst e; rw [h] at hj; cases hj
  · rw [Ren.add_ne β L e]; exact hj

/-- A memory with less in it. -/
def Sub (m1 m : Mem) : Prop := m1.next = m.next ∧ ∀ i b, m1.get i = some b → m.get i = some b

theorem Sub.refl (m : Mem) : Sub m m := ⟨rfl, fun _ _ h => h⟩
theorem Sub.kill (m : Mem) (i : Nat) : Sub (m.kill i) m := ⟨rfl, fun j b h => by
  simp only [Mem.kill] at h
  split at h
  · cases h
  · exact h⟩

/-- A new block of the machine's, and a new name for it. -/
theorem post_new {m1 : Mem} (W : WRel P β m w) (hs : Sub m1 m) (hlow : ∀ i, i < m.next → β i = none → m1.get i = m.get i) (hF : β m.next = none) {b : Blk} {o : Obj} {L : Loc} {w' : World}
    (hg : L.g = w.heap.size) (hh : w'.heap = w.heap.push o) (h1 : w'.os = w.os) (h2 : w'.tape = w.tape) (h3 : w'.output = w.output)
    (hb : BRel P β L b (some o)) : Post P β m w (m1.new b) (β.add m.next L) w' := by
  have hle : Le β (β.add m.next L) := Ren.add_le L hF
  have hnext : (m1.new b).next = m.next + 1 := by simp [Mem.new, hs.1]
  have hget : ∀ i, (m1.new b).get i = if i = m.next then some b else m1.get i := fun i => by simp [Mem.new, hs.1]
  have hold : ∀ g, g < w.heap.size → w'.heap[g]? = w.heap[g]? := fun g hgl => by rw [hh, Array.getElem?_push]; simp [Nat.ne_of_lt hgl]
  refine ⟨⟨?_, ?_, ?_, ?_⟩, ⟨h1, h2, h3, by rw [hh]; simp, fun g hgl _ => hold g hgl⟩, by omega, ?_, ?_, ?_, ?_⟩
  · intro i b' L' hi hL'
    rw [hget] at hi
    by_cases e : i = m.next
    · subst e
      rw [if_pos rfl] at hi
      obtain rfl := Option.some.inj hi
      rw [Ren.add_self] at hL'
      obtain rfl := Option.some.inj hL'
      rw [hg, hh, Array.getElem?_push]
      simp only [if_true]
      exact hb.mono hle
    · rw [if_neg e] at hi
      rw [Ren.add_ne _ _ e] at hL'
      have := W.blk i b' L' (hs.2 i b' hi) hL'
      rw [hold _ (W.dom i b' L' (hs.2 i b' hi) hL')]
      exact this.mono hle
  · intro i j bi bj Li Lj hi hj hLi hLj e ho
    rw [hget] at hi hj
    by_cases ei : i = m.next
    · by_cases ej : j = m.next
      · rw [ei, ej]
      · subst ei
        rw [Ren.add_self] at hLi
        obtain rfl := Option.some.inj hLi
        rw [Ren.add_ne _ _ ej] at hLj
        rw [if_neg ej] at hj
        have := W.dom j bj Lj (hs.2 j bj hj) hLj
        omega
    · by_cases ej : j = m.next
      · subst ej
        rw [Ren.add_self] at hLj
        obtain rfl := Option.some.inj hLj
        rw [Ren.add_ne _ _ ei] at hLi
        rw [if_neg ei] at hi
        have := W.dom i bi Li (hs.2 i bi hi) hLi
        omega
      · rw [if_neg ei] at hi
        rw [if_neg ej] at hj
        rw [Ren.add_ne _ _ ei] at hLi
        rw [Ren.add_ne _ _ ej] at hLj
        exact W.inj i j bi bj Li Lj (hs.2 i bi hi) (hs.2 j bj hj) hLi hLj e ho
  · intro i b' L' hi hL'
    rw [hget] at hi
    by_cases e : i = m.next
    · subst e
      rw [Ren.add_self] at hL'
      obtain rfl := Option.some.inj hL'
      rw [hg, hh]; simp
    · rw [Ren.add_ne _ _ e] at hL'
      rw [if_neg e] at hi
      have := W.dom i b' L' (hs.2 i b' hi) hL'
      rw [hh]; simp; omega
  · intro i hi
    rw [hnext] at hi
    rw [hget, if_neg (by omega)]
    cases hm : m1.get i with
    | none => rfl
    | some b' =>
      have := hs.2 i b' hm
      rw [W.fresh i (by omega)] at this
      cases this
  · intro i hi
    rw [hnext] at hi
    exact Ren.add_ne _ _ (by omega)
  · intro i hi hn
    rw [hget, if_neg (by omega)]
    exact hlow i hi hn
  · intro i b' hi hb' ho
    rw [hget, if_neg (by omega)] at hb'
    exact ⟨b', hs.2 i b' hb', ho⟩
  · intro i L' h4 h5 hL'
    rw [hnext] at h5
    obtain rfl : i = m.next := by omega
    rw [Ren.add_self] at hL'
    obtain rfl := Option.some.inj hL'
    exact .inl (by omega)

/-- A block of the call's own, written; or grown in place, under a new name. -/
theorem WRel.only {m1 : Mem} (W : WRel P β m w) (hs : Sub m1 m) : WRel P β m1 w :=
  ⟨fun i b L h => W.blk i b L (hs.2 i b h), fun i j bi bj L L' h h' => W.inj i j bi bj L L' (hs.2 i bi h) (hs.2 j bj h'), fun i b L h => W.dom i b L (hs.2 i b h), fun i hi => by
    cases hm : m1.get i with
    | none => rfl
    | some b =>
      have := hs.2 i b hm
      rw [W.fresh i (by rw [← hs.1]; exact hi)] at this
      cases this⟩

theorem setRow_get (g : Nat) {old cs : Array Value} {t : TypeId} {fr : Nat × Nat} (hg : w.heap[g]? = some (.cells old t fr)) (k : Nat) :
    (w.setRow g cs).heap[k]? = if k = g then some (.cells cs t fr) else w.heap[k]? := by
  by_cases h : k = g
  · subst h; rw [if_pos rfl]; exact setRow_heap w k old cs t fr hg
  · rw [if_neg h]; exact setRow_other w g k cs h

theorem post_set {i : Nat} {cs cs1 : List Value} {e : TypeId} {L : Loc} {c c1 : Array Value} {fr : Nat × Nat} (W : WRel P β m w) (hm : m.get i = some (.cells cs e true)) (hL : β i = some L)
    (hc : w.heap[L.g]? = some (.cells c e fr)) (hs : c1.size = c.size) (hl : cs1.length + L.sh ≤ c1.size) (hr : CRel β cs1 c1 L.sh) :
    Post P β m w (m.set i (.cells cs1 e true)) β (w.setRow L.g c1) := by
  obtain ⟨c0, fr0, h1, h2, h3, h4, h5, h6⟩ := W.cells hm hL
  rw [hc] at h1
  obtain ⟨rfl, -, rfl⟩ : c = c0 ∧ e = e ∧ fr = fr0 := by injection h1 with h1; injection h1 with a b d; exact ⟨a, rfl, d⟩
  refine ⟨⟨?_, ?_, ?_, ?_⟩, ⟨by simp, by simp, by simp, by simp, fun g hg hn => ?_⟩, Nat.le_refl _, fun _ _ => rfl, ?_, ?_, ?_⟩
  · intro j b L' hj hL'
    rw [setRow_get _ hc]
    simp only [Mem.set] at hj
    by_cases ej : j = i
    · subst ej
      rw [if_pos rfl] at hj
      obtain rfl := Option.some.inj hj
      rw [hL] at hL'
      obtain rfl := Option.some.inj hL'
      rw [if_pos rfl]
      exact ⟨c1, e, fr, rfl, fun _ => rfl, hs.trans h2, h3, hl, hr, fun ho => (h6 rfl).imp id (fun h => by omega)⟩
    · rw [if_neg ej] at hj
      have hne : L'.g ≠ L.g := fun e' => ej (W.inj j i b _ L' L hj hm hL' hL e' (.inr rfl))
      rw [if_neg hne]
      exact W.blk j b L' hj hL'
  · intro a b ba bb La Lb ha hb hLa hLb eg ho
    simp only [Mem.set] at ha hb
    have ha' : ∃ x, m.get a = some x ∧ (ba.own = true → x.own = true) := by
      by_cases h : a = i
      · exact ⟨_, h ▸ hm, fun _ => rfl⟩
      · rw [if_neg h] at ha; exact ⟨_, ha, id⟩
    have hb' : ∃ x, m.get b = some x ∧ (bb.own = true → x.own = true) := by
      by_cases h : b = i
      · exact ⟨_, h ▸ hm, fun _ => rfl⟩
      · rw [if_neg h] at hb; exact ⟨_, hb, id⟩
    obtain ⟨xa, ha', oa⟩ := ha'
    obtain ⟨xb, hb', ob⟩ := hb'
    exact W.inj a b xa xb La Lb ha' hb' hLa hLb eg (ho.imp oa ob)
  · intro j b L' hj hL'
    simp only [setRow_size]
    simp only [Mem.set] at hj
    by_cases h : j = i
    · subst h
      exact W.dom j _ L' hm hL'
    · rw [if_neg h] at hj
      exact W.dom j b L' hj hL'
  · intro j hj
    simp only [Mem.set] at hj ⊢
    by_cases h : j = i
    · subst h
      have := W.fresh j hj
      rw [hm] at this
      cases this
    · rw [if_neg h]; exact W.fresh j hj
  · rw [setRow_get _ hc, if_neg]
    intro e'
    exact hn i _ L hm rfl hL e'.symm
  · intro j hj hn
    simp only [Mem.set]
    rw [if_neg]
    rintro rfl
    rw [hL] at hn
    cases hn
  · intro j b hj hb ho
    simp only [Mem.set] at hb
    by_cases h : j = i
    · subst h; exact ⟨_, hm, rfl⟩
    · rw [if_neg h] at hb; exact ⟨b, hb, ho⟩
  · intro j L' h7 h8
    exact absurd h8 (by simp only [Mem.set]; omega)

theorem post_move {i : Nat} {cs cs1 : List Value} {e : TypeId} {L : Loc} {sh : Nat} {c c1 : Array Value} {fr : Nat × Nat} (W : WRel P β m w) (hm : m.get i = some (.cells cs e true)) (hL : β i = some L)
    (hF : β m.next = none) (hc : w.heap[L.g]? = some (.cells c e fr)) (hs : c1.size = c.size) (hl : cs1.length + sh ≤ c1.size) (hr : CRel β cs1 c1 sh) :
    Post P β m w ((m.kill i).new (.cells cs1 e true)) (β.add m.next ⟨L.g, sh, L.size, L.sz⟩) (w.setRow L.g c1) := by
  obtain ⟨c0, fr0, h1, h2, h3, h4, h5, h6⟩ := W.cells hm hL
  rw [hc] at h1
  obtain ⟨rfl, -, rfl⟩ : c = c0 ∧ e = e ∧ fr = fr0 := by injection h1 with h1; injection h1 with a b d; exact ⟨a, rfl, d⟩
  have hle : Le β (β.add m.next ⟨L.g, sh, L.size, L.sz⟩) := Ren.add_le _ hF
  have hi : i < m.next := by
    rcases Nat.lt_or_ge i m.next with h | h
    · exact h
    · rw [W.fresh i h] at hm; cases hm
  have hget : ∀ j, ((m.kill i).new (.cells cs1 e true)).get j = if j = m.next then some (.cells cs1 e true) else if j = i then none else m.get j := fun j => rfl
  refine ⟨⟨?_, ?_, ?_, ?_⟩, ⟨by simp, by simp, by simp, by simp, fun g hg hn => ?_⟩, by simp [Mem.new, Mem.kill], ?_, ?_, ?_, ?_⟩
  · intro j b L' hj hL'
    rw [setRow_get _ hc]
    rw [hget] at hj
    by_cases e1 : j = m.next
    · subst e1
      rw [if_pos rfl] at hj
      obtain rfl := Option.some.inj hj
      rw [Ren.add_self] at hL'
      obtain rfl := Option.some.inj hL'
      rw [if_pos rfl]
      exact ⟨c1, e, fr, rfl, fun _ => rfl, hs.trans h2, h3, hl, hr.mono hle, fun ho => (h6 rfl).imp id (fun h => by omega)⟩
    · rw [if_neg e1] at hj
      split at hj
      · cases hj
      · rename_i e2
        rw [Ren.add_ne _ _ e1] at hL'
        have hne : L'.g ≠ L.g := fun e' => e2 (W.inj j i b _ L' L hj hm hL' hL e' (.inr rfl))
        rw [if_neg hne]
        exact (W.blk j b L' hj hL').mono hle
  · intro a b ba bb La Lb ha hb hLa hLb eg ho
    rw [hget] at ha hb
    by_cases ea : a = m.next
    · by_cases eb : b = m.next
      · rw [ea, eb]
      · subst ea
        rw [Ren.add_self] at hLa
        obtain rfl := Option.some.inj hLa
        rw [Ren.add_ne _ _ eb] at hLb
        rw [if_neg eb] at hb
        split at hb
        · cases hb
        · rename_i e2
          exact (e2 (W.inj i b _ bb L Lb hm hb hL hLb eg (.inl rfl)).symm).elim
    · by_cases eb : b = m.next
      · subst eb
        rw [Ren.add_self] at hLb
        obtain rfl := Option.some.inj hLb
        rw [Ren.add_ne _ _ ea] at hLa
        rw [if_neg ea] at ha
        split at ha
        · cases ha
        · rename_i e2
          exact (e2 (W.inj a i ba _ La L ha hm hLa hL eg (.inr rfl))).elim
      · rw [Ren.add_ne _ _ ea] at hLa
        rw [Ren.add_ne _ _ eb] at hLb
        rw [if_neg ea] at ha
        rw [if_neg eb] at hb
        split at ha
        · cases ha
        · split at hb
          · cases hb
          · exact W.inj a b ba bb La Lb ha hb hLa hLb eg ho
  · intro j b L' hj hL'
    simp only [setRow_size]
    rw [hget] at hj
    by_cases e1 : j = m.next
    · subst e1
      rw [Ren.add_self] at hL'
      obtain rfl := Option.some.inj hL'
      exact W.dom i _ L hm hL
    · rw [Ren.add_ne _ _ e1] at hL'
      rw [if_neg e1] at hj
      split at hj
      · cases hj
      · exact W.dom j b L' hj hL'
  · intro j hj
    rw [hget]
    have hj' : m.next + 1 ≤ j := hj
    rw [if_neg (by omega), if_neg (by omega)]
    exact W.fresh j (by omega)
  · rw [setRow_get _ hc, if_neg]
    intro e'
    exact hn i _ L hm rfl hL e'.symm
  · intro j hj
    refine Ren.add_ne _ _ ?_
    rintro rfl
    rcases hj with h | h
    · omega
    · have : m.next + 1 ≤ m.next := h
      omega
  · intro j hj hn
    rw [hget, if_neg (by omega), if_neg]
    rintro rfl
    rw [hL] at hn
    cases hn
  · intro j b hj hb ho
    rw [hget, if_neg (by omega)] at hb
    split at hb
    · cases hb
    · exact ⟨b, hb, ho⟩
  · intro j L' h7 h8 hL'
    have h8' : j < m.next + 1 := h8
    obtain rfl : j = m.next := by omega
    rw [Ren.add_self] at hL'
    obtain rfl := Option.some.inj hL'
    exact .inr ⟨i, _, L, hm, rfl, hL, rfl⟩

theorem unfrozen {c : Array Value} {fr : Nat × Nat} (h : fr.1 = fr.2 ∨ c.size ≤ fr.1) : ∀ k, k < c.size → ¬ (fr.1 ≤ k ∧ k < fr.2) := by
  intro k hk ⟨h1, h2⟩
  rcases h with h | h <;> omega

/-- 'store' of cells, one behind the other, in a block of the call's own. -/
theorem run_store_row {g : Nat} {t : TypeId} {fr : Nat × Nat} : ∀ (vs : List Value) (o i : Nat) (cur : Array Value) (w : World), w.heap[g]? = some (.cells cur t fr) → o + i + vs.length ≤ cur.size →
    (∀ k, k < cur.size → ¬ (fr.1 ≤ k ∧ k < fr.2)) → (∀ v ∈ vs, okCell v = true) →
    (storeCells ⟨g, o, none⟩ vs i).run P w = .ok () (w.setRow g (cur.toList.take (o + i) ++ vs ++ cur.toList.drop (o + i + vs.length)).toArray)
  | [], o, i, cur, w, hg, _, _, _ => by
    simp only [storeCells, List.append_nil, List.length_nil, Nat.add_zero, List.take_append_drop, Array.toArray_toList]
    rw [setRow_self w g cur t fr hg]
    rfl
  | v :: rest, o, i, cur, w, hg, hl, hf, h1 => by
    have hi : o + i < cur.size := by simp at hl; omega
    have hcell : w.cell? ⟨g, o + i, none⟩ = some cur[o + i] := by simp [World.cell?, hg, hi]
    have hfro : w.frozen? ⟨g, o + i, none⟩ = false := by
      have := hf (o + i) hi
      simp only [World.frozen?, hg]
      rw [Bool.eq_false_iff]
      intro hc
      simp at hc
      exact this hc
    have hv := h1 v (by simp)
    have hst : (store ((⟨g, o, none⟩ : Addr).add i) v).run P w = .ok () (w.setRow g (cur.setIfInBounds (o + i) v)) := by
      rw [addr_add]
      have h9 : (store ⟨g, o + i, none⟩ v).run P w = .ok () (w.setCell ⟨g, o + i, none⟩ v) := by
        cases v <;> first | (simp [okCell] at hv; done) | simp [store, Sem.run, hcell, hfro]
      rw [h9, setCell_eq_setRow w g (o + i) cur t fr v hg]
    have ih := run_store_row rest o (i + 1) (cur.setIfInBounds (o + i) v) (w.setRow g (cur.setIfInBounds (o + i) v)) (setRow_heap w g cur _ t _ hg) (by simp at hl ⊢; omega) (by simpa using hf) (fun x hx => h1 x (by simp [hx]))
    simp only [storeCells, Sem.run_bind, hst, Result.andThen_ok, ih, setRow_setRow]
    congr 3
    have e := list_seg_step cur.toList (o + i) v rest (by simp at hl ⊢; omega)
    simpa [Array.toList_setIfInBounds, Nat.add_assoc] using e

theorem CRel.of_arel {cs c : Array Value} (h : ARel β cs c) : CRel β cs.toList c 0 := fun i x hx => by
  have hx' : cs[i]? = some x := by simpa using hx
  obtain ⟨v, hv, r⟩ := h.get hx'
  exact ⟨h.ok i x hx', v, by simpa using hv, r⟩

/-- Cells that are written into a block, as the abstract memory has it and as the machine has it. -/
theorem CRel.set {cs : List Value} {c : Array Value} {sh off : Nat} {xs : List Value} {vs : List Value} (h : CRel β cs c sh) (hc : cs.length + sh ≤ c.size) (hx : ARel β xs.toArray vs.toArray) (ho : off + xs.length ≤ cs.length) :
    CRel β (setCells cs off xs) (c.toList.take (off + sh) ++ vs ++ c.toList.drop (off + sh + vs.length)).toArray sh ∧ (setCells cs off xs).length = cs.length ∧
      (c.toList.take (off + sh) ++ vs ++ c.toList.drop (off + sh + vs.length)).toArray.size = c.size := by
  have hl : xs.length = vs.length := by simpa using hx.size
  refine ⟨fun i x hi => ?_, by simp [setCells]; omega, by simp; omega⟩
  simp only [List.getElem?_toArray]
  unfold setCells at hi
  by_cases h1 : i < off
  · rw [List.append_assoc, List.getElem?_append_left (by simp; omega), List.getElem?_take, if_pos h1] at hi
    obtain ⟨a, v, hv, r⟩ := h i x hi
    refine ⟨a, v, ?_, r⟩
    rw [List.append_assoc, List.getElem?_append_left (by simp; omega), List.getElem?_take, if_pos (by omega)]
    simpa using hv
  · by_cases h2 : i < off + xs.length
    · rw [List.append_assoc, List.getElem?_append_right (by simp; omega), List.getElem?_append_left (by simp; omega)] at hi
      have e1 : i - (cs.take off).length = i - off := by simp; omega
      rw [e1] at hi
      obtain ⟨v, hv, r⟩ := hx.get (i := i - off) (x := x) (by simpa using hi)
      refine ⟨hx.ok (i - off) x (by simpa using hi), v, ?_, r⟩
      rw [List.append_assoc, List.getElem?_append_right (by simp; omega), List.getElem?_append_left (by simp; omega)]
      have e2 : i + sh - (c.toList.take (off + sh)).length = i - off := by simp; omega
      rw [e2]
      simpa using hv
    · rw [List.append_assoc, List.getElem?_append_right (by simp; omega), List.getElem?_append_right (by simp; omega), List.getElem?_drop] at hi
      have e1 : off + xs.length + (i - (cs.take off).length - xs.length) = i := by simp; omega
      rw [e1] at hi
      obtain ⟨a, v, hv, r⟩ := h i x hi
      refine ⟨a, v, ?_, r⟩
      rw [List.append_assoc, List.getElem?_append_right (by simp; omega), List.getElem?_append_right (by simp; omega), List.getElem?_drop]
      have e2 : off + sh + vs.length + (i + sh - (c.toList.take (off + sh)).length - vs.length) = i + sh := by simp; omega
      rw [e2]
      simpa using hv

theorem opStore_rel {t : TypeId} {a x u v : Value} {m' : Mem} (W : WRel P β m w) (ha : VRel β a u) (hx : VRel β x v) (e : opStore P t a x m = some m') :
    ∃ w', (Instr.storeAt t u v).run P w = .ok () w' ∧ Post P β m w m' β w' := by
  unfold opStore at e
  split at e
  · rename_i i off
    split at e
    · rename_i cs el hm
      split at e
      · rename_i hh
        obtain ⟨h1, h2, h3⟩ := hh
        obtain rfl := Option.some.inj e
        cases ha with
        | ptr hL =>
          rename_i L
          obtain ⟨c, fr, h4, h5, h6, h7, h8, h9⟩ := W.cells hm hL
          have hr := hx.cells h2
          have hl : x.cells.toList.length = v.cells.toList.length := by simpa using hr.size
          have hset := CRel.set (vs := v.cells.toList) h8 h7 (xs := x.cells.toList) (by simpa using hr) (by simpa using h3)
          have hrun := run_store_row (P := P) v.cells.toList (off + L.sh) 0 c w h4 (by simp at hl ⊢; omega) (unfrozen (h9 rfl)) (fun y hy => by
            obtain ⟨k, hk⟩ := List.mem_iff_getElem?.1 hy
            have hk' : v.cells[k]? = some y := by simpa using hk
            have hlt : k < x.cells.size := by
              rw [hr.size]
              rcases Nat.lt_or_ge k v.cells.size with h' | h'
              · exact h'
              · rw [Array.getElem?_eq_none h'] at hk'; cases hk'
            have r := hr.has k x.cells[k] y (Array.getElem?_eq_getElem hlt) hk'
            rw [r.okCell]
            exact hr.ok k _ (Array.getElem?_eq_getElem hlt))
          refine ⟨_, ?_, post_set W hm hL h4 (c1 := (c.toList.take (off + L.sh) ++ v.cells.toList ++ c.toList.drop (off + L.sh + v.cells.toList.length)).toArray) hset.2.2 (by rw [hset.2.1, hset.2.2]; exact h7) hset.1⟩
          have hsz : v.cells.size = x.cells.size := hr.size.symm
          simp only [Instr.storeAt, Instr.sureAddr, storeVar, Sem.run_bind, Sem.run_pure, Result.andThen_ok, run_tsize h1]
          rw [if_neg (by rw [hsz]; simp)]
          rw [hrun]
          simp
      · cases e
    · cases e
  · cases e
end Go.AM
