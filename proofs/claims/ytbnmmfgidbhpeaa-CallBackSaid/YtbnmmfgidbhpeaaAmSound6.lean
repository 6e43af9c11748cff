/- What the abstract machine does in one operation, the machine does: append. -/
import Derived.Test.YtbnmmfgidbhpeaaAmSound5
import Derived.Laws.Append
set_option linter.unusedSimpArgs false
set_option linter.unusedVariables false
set_option linter.unusedSimpArgs false
set_option linter.unusedVariables false
namespace Go.AM
open Go
variable {P : Program} {β : Ren} {m : Mem} {w : World}

section
variable {ts : List TypeId} {st xt el ty : TypeId} {base : Option Addr} {n c k s : Nat} {v : Value} {i : TypeInfo} {z : Value} {new old : Array Value} {dx : TypeDesc}

theorem append_fit (hu : P.underlying st = some (.slice el)) (hs : tsize P el = some s) (hx : P.underlying xt = some dx) (hd : dx = .string ∨ ∃ e, dx = .slice e)
    (hl : (Builtin.lenOf v).run P w = .ok k w) (hf : n + k ≤ c) (hA : (Builtin.firstCells s k v).run P w = .ok new w) :
    (Builtin.append_ (st :: xt :: ts).toArray ty #[.slice base n c, v]).run P w =
      match base with
      | some a => ((storeCells (a.add (n * s)) new.toList).run P w).andThen fun _ w' => .ok (.slice (some a) (n + k) c) w'
      | none => .ok (.slice none (n + k) c) w := by
  rcases hd with rfl | ⟨e, rfl⟩
  · simp only [Builtin.append_, Sem.run_bind]
    simp [run_underlying hu, run_underlying hx, run_tsize hs, hl, hf, hA]
    cases base <;> simp
  · simp only [Builtin.append_, Sem.run_bind]
    simp [run_underlying hu, run_underlying hx, run_tsize hs, hl, hf, hA]
    cases base <;> simp

theorem append_grow (hu : P.underlying st = some (.slice el)) (hs : tsize P el = some s) (hx : P.underlying xt = some dx) (hd : dx = .string ∨ ∃ e, dx = .slice e)
    (hi : P.info? el = some i) (hz : i.zero = some z) (hb0 : 0 < i.bytes)
    (hl : (Builtin.lenOf v).run P w = .ok k w) (hf : ¬ n + k ≤ c) (hb : (n + k) * i.bytes ≤ 140737488355328)
    (hO : (Builtin.firstCells s n (.slice base n c)).run P w.drew = .ok old w.drew) (hA : (Builtin.firstCells s k v).run P w.drew = .ok new w.drew) :
    ∃ cap, n + k ≤ cap ∧ (Builtin.append_ (st :: xt :: ts).toArray ty #[.slice base n c, v]).run P w =
      .ok (.slice (some ⟨w.heap.size, 0, none⟩) (n + k) cap) { w.drew with heap := w.heap.push (.cells (old ++ new ++ Builtin.zeroCells z.cells (cap - (n + k))) el) } := by
  have hi' : ∀ w, (typeInfo el).run P w = .ok i w := fun w => by simp [typeInfo, hi]
  have hz' : ∀ w, (zeroValue el).run P w = .ok z w := fun w => by simp [zeroValue, hi', hz]
  have hfits := growslice_fits (need := n + k) (old := c) (by omega) hb
  have hb1 : ¬ i.bytes = 0 := by omega
  have hr : ∀ (N : Nat) (w : World), (askRoom N).run P w = .ok () w := fun N w => run_askRoom N
  refine ⟨(Question.appendCap (n + k) c el).cut (w.tape w.drawn (Question.appendCap (n + k) c el)), by simp [Question.cut], ?_⟩
  have hno : ¬ 281474976710656 < Builtin.nextslicecap (n + k) c * i.bytes := by omega
  have hff : (Question.appendCap (n + k) c el).forced = false := rfl
  rcases hd with rfl | ⟨e, rfl⟩
  · simp only [Builtin.append_, Sem.run_bind]
    simp [run_underlying hu, run_underlying hx, run_tsize hs, hl, hf, hA, hO, hi', hz', hb1, hno, hff, hr, newRow, newObj, Sem.run, Array.append_assoc]
    rfl
  · simp only [Builtin.append_, Sem.run_bind]
    simp [run_underlying hu, run_underlying hx, run_tsize hs, hl, hf, hA, hO, hi', hz', hb1, hno, hff, hr, newRow, newObj, Sem.run, Array.append_assoc]
    rfl

theorem wrap_small {l : Int} (h0 : 0 ≤ l) (h1 : l ≤ 9223372036854775807) : IntKind.i64.wrap l = l := by
  rw [IntKind.wrap_i64]
  omega

theorem append_fit_zeros {kk : IntKind} {l : Int} (hu : P.underlying st = some (.slice el)) (hs : tsize P el = some s) (hx : P.underlying xt = some (.int kk))
    (hi : P.info? el = some i) (hz : i.zero = some z) (hb0 : 0 < i.bytes) (h0 : 0 ≤ l) (hk : l.toNat * i.bytes ≤ 140737488355328) (hzs : z.cells.size = s) (hs0 : 0 < s) (hf : n + l.toNat ≤ c) :
    (Builtin.append_ (st :: xt :: ts).toArray ty #[.slice base n c, .int .i64 l]).run P w =
      match base with
      | some a => ((storeCells (a.add (n * s)) (zeroRow z.cells (l.toNat * s)).toList).run P w).andThen fun _ w' => .ok (.slice (some a) (n + l.toNat) c) w'
      | none => .ok (.slice none (n + l.toNat) c) w := by
  have hi' : ∀ w, (typeInfo el).run P w = .ok i w := fun w => by simp [typeInfo, hi]
  have hz' : ∀ w, (zeroValue el).run P w = .ok z w := fun w => by simp [zeroValue, hi', hz]
  have hl1 : l.toNat ≤ 140737488355328 := Nat.le_trans (Nat.le_mul_of_pos_right _ hb0) hk
  have hw : IntKind.i64.wrap l = l := wrap_small h0 (by omega)
  have h2 : ¬ l < 0 := by omega
  have h3 : ¬ 281474976710656 < l * i.bytes := by
    have h7 := Int.ofNat_le.2 hk
    rw [Int.natCast_mul, Int.toNat_of_nonneg h0] at h7
    omega
  have hzr : Builtin.zeroCells z.cells l.toNat = zeroRow z.cells (l.toNat * s) := by
    unfold Builtin.zeroCells zeroRow
    rw [hzs]
  by_cases hn : l.toNat * s = 0
  · have hl0 : l.toNat = 0 := by
      rcases Nat.mul_eq_zero.1 hn with h | h
      · exact h
      · omega
    have hl00 : l = 0 := by omega
    subst hl00
    simp only [Builtin.append_, Sem.run_bind]
    simp [run_underlying hu, run_underlying hx, run_tsize hs, hi', asInt, asIntOf, hw] at hf ⊢
    simp [hf]
    cases base <;> simp [zeroRow]
  · simp only [Builtin.append_, Sem.run_bind]
    have hn1 : ¬ l.toNat = 0 := by rintro h; rw [h] at hn; simp at hn
    have hn2 : ¬ s = 0 := by omega
    simp [run_underlying hu, run_underlying hx, run_tsize hs, hi', asInt, asIntOf, hw, h2, h3, hf, hz', hzr, hn]
    cases base <;> simp [hn]

theorem append_grow_zeros {kk : IntKind} {l : Int} (hu : P.underlying st = some (.slice el)) (hs : tsize P el = some s) (hx : P.underlying xt = some (.int kk))
    (hi : P.info? el = some i) (hz : i.zero = some z) (hb0 : 0 < i.bytes) (h0 : 0 ≤ l) (hb : (n + l.toNat) * i.bytes ≤ 140737488355328) (hzs : z.cells.size = s) (hs0 : 0 < s) (hf : ¬ n + l.toNat ≤ c) (hk0 : l.toNat ≠ 0)
    (hO : (Builtin.firstCells s n (.slice base n c)).run P w.drew = .ok old w.drew) :
    ∃ cap, n + l.toNat ≤ cap ∧ (Builtin.append_ (st :: xt :: ts).toArray ty #[.slice base n c, .int .i64 l]).run P w =
      .ok (.slice (some ⟨w.heap.size, 0, none⟩) (n + l.toNat) cap) { w.drew with heap := w.heap.push (.cells (old ++ zeroRow z.cells (l.toNat * s) ++ Builtin.zeroCells z.cells (cap - (n + l.toNat))) el) } := by
  have hi' : ∀ w, (typeInfo el).run P w = .ok i w := fun w => by simp [typeInfo, hi]
  have hz' : ∀ w, (zeroValue el).run P w = .ok z w := fun w => by simp [zeroValue, hi', hz]
  have hk : l.toNat * i.bytes ≤ 140737488355328 := Nat.le_trans (Nat.mul_le_mul_right _ (Nat.le_add_left _ _)) hb
  have hl1 : n + l.toNat ≤ 140737488355328 := Nat.le_trans (Nat.le_mul_of_pos_right _ hb0) hb
  have hw : IntKind.i64.wrap l = l := wrap_small h0 (by omega)
  have h2 : ¬ l < 0 := by omega
  have h3 : ¬ 281474976710656 < l * i.bytes := by
    have h7 := Int.ofNat_le.2 hk
    rw [Int.natCast_mul, Int.toNat_of_nonneg h0] at h7
    omega
  have hzr : Builtin.zeroCells z.cells l.toNat = zeroRow z.cells (l.toNat * s) := by
    unfold Builtin.zeroCells zeroRow
    rw [hzs]
  have hfits := growslice_fits (need := n + l.toNat) (old := c) (by omega) hb
  have hb1 : ¬ i.bytes = 0 := by omega
  have hr : ∀ (N : Nat) (w : World), (askRoom N).run P w = .ok () w := fun N w => run_askRoom N
  have hno : ¬ 281474976710656 < Builtin.nextslicecap (n + l.toNat) c * i.bytes := by omega
  have hff : (Question.appendCap (n + l.toNat) c el).forced = false := rfl
  have hmx : ¬ 9223372036854775807 < (n : Int) + (l.toNat : Int) := by omega
  refine ⟨(Question.appendCap (n + l.toNat) c el).cut (w.tape w.drawn (Question.appendCap (n + l.toNat) c el)), by simp [Question.cut], ?_⟩
  have hn2 : ¬ s = 0 := by omega
  have hn : ¬ l.toNat * s = 0 := Nat.mul_ne_zero hk0 hn2
  have hmx' : ¬ 9223372036854775807 < (n : Int) + max l 0 := by omega
  simp only [Builtin.append_, Sem.run_bind]
  simp [run_underlying hu, run_underlying hx, run_tsize hs, hi', asInt, asIntOf, hw, h2, h3, hf, hz', hzr, hk0, hn, hn2, hO, hno, hff, hr, hmx, hmx', newRow, newObj, Sem.run, Array.append_assoc]
  rfl
end

theorem info_of {t : TypeId} {s b : Nat} {z : Value} (hs : tsize P t = some s) (hz : tzero P t = some z) (hb : tbytes P t = some b) : ∃ i, P.info? t = some i ∧ i.size = s ∧ i.zero = some z ∧ i.bytes = b := by
  unfold tsize at hs
  unfold tzero at hz
  unfold tbytes at hb
  cases hi : P.info? t with
  | none => rw [hi] at hs; cases hs
  | some i =>
    rw [hi] at hs hz hb
    exact ⟨i, rfl, Option.some.inj hs, hz, Option.some.inj hb⟩

/-- What is added, as the machine adds it. -/
structure Added (P : Program) (w : World) (st el ty : TypeId) (ts : List TypeId) (s b k : Nat) (z v : Value) (new : Array Value) : Prop where
  fit : ∀ (base : Option Addr) (n c : Nat), n + k ≤ c → (k = 0 ∨ (n + k) * b ≤ 140737488355328) → (Builtin.append_ (st :: ts).toArray ty #[.slice base n c, v]).run P w =
      match base with
      | some a => ((storeCells (a.add (n * s)) new.toList).run P w).andThen fun _ w' => .ok (.slice (some a) (n + k) c) w'
      | none => .ok (.slice none (n + k) c) w
  grow : ∀ (base : Option Addr) (n c : Nat) (old : Array Value), ¬ n + k ≤ c → k ≠ 0 → (n + k) * b ≤ 140737488355328 → (Builtin.firstCells s n (.slice base n c)).run P w.drew = .ok old w.drew →
      ∃ cap, n + k ≤ cap ∧ (Builtin.append_ (st :: ts).toArray ty #[.slice base n c, v]).run P w =
        .ok (.slice (some ⟨w.heap.size, 0, none⟩) (n + k) cap) { w.drew with heap := w.heap.push (.cells (old ++ new ++ Builtin.zeroCells z.cells (cap - (n + k))) el) }

theorem added_rel {st el ty : TypeId} {ts : List TypeId} {s b k : Nat} {z y v : Value} {new : List Value} (W : WRel P β m w) (hu : P.underlying st = some (.slice el))
    (hs : tsize P el = some s) (hz : tzero P el = some z) (hb : tbytes P el = some b) (hzo : zeroOk z = true) (hs0 : 0 < s) (hb0 : 0 < b) (hzs : z.cells.size = s) (hy : VRel β y v)
    (e : addedBy P ts.head? s z y m = some (k, new)) : ∃ new' : Array Value, ARel β new.toArray new' ∧ new'.size = k * s ∧ Added P w st el ty ts s b k z v new' := by
  obtain ⟨i, hi, his, hiz, hib⟩ := info_of hs hz hb
  subst hib
  unfold addedBy at e
  split at e
  · cases e
  · rename_i xt hxt
    cases ts with
    | nil => cases hxt
    | cons xt' tr =>
      obtain rfl : xt' = xt := by simpa using hxt
      split at e
      · rename_i kk l hx
        split at e
        · rename_i hl
          obtain ⟨rfl, rfl⟩ := Prod.mk.inj (Option.some.inj e)
          cases hy
          obtain ⟨hr, hk⟩ := zero_rel (β := β) hzo
          have hA := zeroRow_rel (n := l.toNat * s) (hr.cells hk) (by omega)
          refine ⟨zeroRow z.cells (l.toNat * s), by simpa using hA, zeroRow_size _ _, fun base n c hf hkb => ?_, fun base n c old hf hk0 hb hO => ?_⟩
          · exact append_fit_zeros hu hs hx hi hiz hb0 hl.1 (by
              rcases hkb with h | h
              · rw [h, Nat.zero_mul]; exact Nat.zero_le _
              · exact Nat.le_trans (Nat.mul_le_mul_right _ (Nat.le_add_left _ _)) h) hzs hs0 hf
          · exact append_grow_zeros hu hs hx hi hiz hb0 hl.1 hb hzs hs0 hf hk0 hO
        · cases e
      · rename_i bs hx
        split at e
        · rename_i h1
          subst h1
          obtain ⟨rfl, rfl⟩ := Prod.mk.inj (Option.some.inj e)
          cases hy
          have hfc : ∀ w : World, (Builtin.firstCells 1 bs.size (.string bs)).run P w = .ok (bs.data.map fun c => .int .u8 c.toNat) w := by
            intro w
            have : bs.extract 0 bs.size = bs := by simp
            simp [Builtin.firstCells, this]
          refine ⟨_, bytesRow_rel bs, by rw [Array.size_map, Nat.mul_one]; rfl, fun base n c hf hkb => ?_, fun base n c old hf hk0 hb hO => ?_⟩
          · exact append_fit hu hs hx (.inl rfl) (by simp [Builtin.lenOf]) hf (hfc w)
          · exact append_grow hu hs hx (.inl rfl) hi hiz hb0 (by simp [Builtin.lenOf]) hf hb hO (hfc _)
        · cases e
      · rename_i e0 a n q hx
        split at e
        · rename_i cs hcs
          obtain ⟨rfl, rfl⟩ := Prod.mk.inj (Option.some.inj e)
          obtain ⟨vs, hvs, r, hsz⟩ := shown_rel W (Nat.le_refl _) hy hcs
          have hl : ∀ w : World, (Builtin.lenOf v).run P w = .ok n w := by
            intro w
            cases hy <;> simp [Builtin.lenOf]
          refine ⟨vs, r, hsz, fun base n' c hf hkb => ?_, fun base n' c old hf hk0 hb hO => ?_⟩
          · exact append_fit hu hs hx (.inr ⟨_, rfl⟩) (hl w) hf (hvs w rfl)
          · exact append_grow hu hs hx (.inr ⟨_, rfl⟩) hi hiz hb0 (hl w) hf hb hO (hvs w.drew rfl)
        · cases e
      · cases e

theorem zeroCells_size (z : Array Value) (n : Nat) : (Builtin.zeroCells z n).size = n * z.size := by simp [Builtin.zeroCells]

theorem CRel.appended {cs : List Value} {c r : Array Value} (h : ARel β cs.toArray c) : CRel β cs (c ++ r) 0 := fun i x hx => by
  obtain ⟨v, hv, hr⟩ := h.get (i := i) (x := x) (by simpa using hx)
  have hlt : i < c.size := by
    rcases Nat.lt_or_ge i c.size with h' | h'
    · exact h'
    · rw [Array.getElem?_eq_none h'] at hv; cases hv
  exact ⟨h.ok i x (by simpa using hx), v, by rw [Nat.add_zero, Array.getElem?_append_left hlt]; exact hv, hr⟩

theorem ARel.append {xs ys : List Value} {a b : Array Value} (h : ARel β xs.toArray a) (k : ARel β ys.toArray b) : ARel β (xs ++ ys).toArray (a ++ b) := by
  have hl : xs.length = a.size := by simpa using h.size
  refine ⟨by have := k.size; simp at this; simp; omega, fun i x x' h1 h2 => ?_, fun i x h1 => ?_⟩
  · simp only [List.getElem?_toArray] at h1
    by_cases hi : i < xs.length
    · rw [List.getElem?_append_left hi] at h1
      rw [Array.getElem?_append_left (by omega)] at h2
      exact h.has i x x' (by simpa using h1) h2
    · rw [List.getElem?_append_right (by omega)] at h1
      rw [Array.getElem?_append_right (by omega), ← hl] at h2
      exact k.has (i - xs.length) x x' (by simpa using h1) h2
  · simp only [List.getElem?_toArray] at h1
    by_cases hi : i < xs.length
    · rw [List.getElem?_append_left hi] at h1
      exact h.ok i x (by simpa using h1)
    · rw [List.getElem?_append_right (by omega)] at h1
      exact k.ok (i - xs.length) x (by simpa using h1)

theorem opAppend_rel {ts : List TypeId} {xs vs : List Value} {x : Value} {m' : Mem} {ty : TypeId} (W : WRel P β m w) (hF : Free β m m') (hl : LRel β xs vs) (e : opAppend P ts xs m = some (x, m')) :
    ∃ z w' β', (Builtin.append_ ts.toArray ty vs.toArray).run P w = .ok z w' ∧ VRel β' x z ∧ Post P β m w m' β' w' := by
  unfold opAppend at e
  split at e
  · rename_i st tr a n q y
    match vs, hl with
    | [u, v], ⟨hu', hv', _⟩ =>
    split at e
    · rename_i el hu
      split at e
      · rename_i s z b hs hz hb
        split at e
        · rename_i hh
          obtain ⟨hzo, hs0, hb0, hzs⟩ := hh
          split at e
          · rename_i k new hadd
            obtain ⟨new', hA, hsz, hAdd⟩ := added_rel (ty := ty) W hu hs hz hb hzo hs0 hb0 hzs hv' hadd
            split at e
            · rename_i hk0
              obtain ⟨rfl, rfl⟩ := Prod.mk.inj (Option.some.inj e)
              subst hk0
              have hnil : new'.toList = [] := by
                have : new'.size = 0 := by rw [hsz, Nat.zero_mul]
                simpa using this
              cases hu' with
              | sliceNil =>
                exact ⟨_, w, β, hAdd.fit none 0 0 (Nat.le_refl _) (.inl rfl), .sliceNil, Post.refl W⟩
              | sliceEmpty hL =>
                rename_i i off a' L
                refine ⟨.slice (some a') 0 0, w, β, ?_, .sliceEmpty hL, Post.refl W⟩
                rw [show [Value.slice (some a') 0 0, v].toArray = #[Value.slice (some a') 0 0, v] from rfl, hAdd.fit _ 0 0 (Nat.le_refl _) (.inl rfl), hnil]
                simp [storeCells]
              | slice hL hn hc =>
                rename_i i off c L
                refine ⟨.slice (some ⟨L.g, off + L.sh, none⟩) n c, w, β, ?_, .slice hL hn hc, Post.refl W⟩
                rw [show [Value.slice (some ⟨L.g, off + L.sh, none⟩) n c, v].toArray = #[Value.slice (some ⟨L.g, off + L.sh, none⟩) n c, v] from rfl, hAdd.fit _ n _ hn (.inl rfl), hnil]
                simp [storeCells]
            · rename_i hk0
              split at e
              · rename_i hkb
                split at e
                · obtain ⟨rfl, rfl⟩ := Prod.mk.inj (Option.some.inj e)
                  cases hu' with
                  | sliceNil =>
                    obtain ⟨cap, hcap, hrun⟩ := hAdd.grow none 0 0 #[] (by omega) hk0 hkb (by simp [Builtin.firstCells])
                    have hsize : (#[] ++ new' ++ Builtin.zeroCells z.cells (cap - (0 + k))).size = cap * s := by
                      simp [zeroCells_size, hsz, hzs]
                      rw [← Nat.add_mul]
                      congr 1
                      omega
                    refine ⟨_, _, _, hrun, ?_, new_block W (hF _ (Nat.le_refl _) (by simp [Mem.new])) el rfl rfl rfl rfl (by have := hA.size; simp at this; simp; omega) (CRel.appended (by simpa using hA))⟩
                    have := VRel.slice (β := β.add m.next ⟨w.heap.size, 0, (#[] ++ new' ++ Builtin.zeroCells z.cells (cap - (0 + k))).size, esz P el⟩) (off := 0) (n := k) (c := cap) (Ren.add_self β m.next _) (by omega) (by rw [hsize, tsize_esz hs]; simp)
                    simpa [tsize_esz hs] using this
                · rename_i i off
                  split at e
                  · rename_i cs el' hm
                    split at e
                    · rename_i h3
                      obtain ⟨rfl, rfl, hend⟩ := h3
                      obtain ⟨rfl, rfl⟩ := Prod.mk.inj (Option.some.inj e)
                      have hFm : β m.next = none := hF _ (Nat.le_refl _) (by simp [Mem.new, Mem.kill])
                      have hnl : new.length = new'.size := by simpa using hA.size
                      cases hu' with
                      | sliceEmpty hL =>
                        rename_i a' L
                        obtain ⟨cap, hcap, hrun⟩ := hAdd.grow (some a') 0 0 #[] (by omega) hk0 hkb (by simp [Builtin.firstCells, loadCells, loadCellsFrom])
                        have hdrop : cs.drop off = [] := by rw [List.drop_eq_nil_iff]; omega
                        have hsize : (#[] ++ new' ++ Builtin.zeroCells z.cells (cap - (0 + k))).size = cap * q := by
                          simp [zeroCells_size, hsz, hzs]
                          rw [← Nat.add_mul]
                          congr 1
                          omega
                        rw [hdrop, List.nil_append]
                        refine ⟨_, _, _, hrun, ?_, post_new (L := ⟨w.heap.size, 0, (#[] ++ new' ++ Builtin.zeroCells z.cells (cap - (0 + k))).size, esz P el'⟩) W (Sub.kill m i) ?_ hFm rfl rfl rfl rfl rfl ⟨_, _, (0, 0), rfl, fun _ => rfl, rfl, rfl, ?_, by have := CRel.appended (r := Builtin.zeroCells z.cells (cap - (0 + k))) hA; simpa using this, fun _ => .inl rfl⟩⟩
                        · have := VRel.slice (β := β.add m.next ⟨w.heap.size, 0, (#[] ++ new' ++ Builtin.zeroCells z.cells (cap - (0 + k))).size, esz P el'⟩) (off := 0) (n := 0 + k) (c := cap) (Ren.add_self β m.next _) (by omega) (by rw [hsize, tsize_esz hs]; simp)
                          simpa [tsize_esz hs] using this
                        · intro j hj hjn
                          simp only [Mem.kill]
                          rw [if_neg]
                          rintro rfl
                          rw [hL] at hjn
                          cases hjn
                        · simp; omega
                      | slice hL hn hc =>
                        rename_i c L
                        obtain ⟨c0, fr, h4, h5, h6, h7, h8, h9⟩ := W.cells hm hL
                        by_cases hfit : n + k ≤ c
                        · -- in place
                          have hmul : n * L.sz + k * L.sz ≤ c * L.sz := by rw [← Nat.add_mul]; exact Nat.mul_le_mul_right _ hfit
                          have hrun := run_store_row (P := P) new'.toList (off + L.sh + n * L.sz) 0 c0 w h4 (by simp; omega) (unfrozen (h9 rfl)) (fun y hy => by
                            obtain ⟨j, hj⟩ := List.mem_iff_getElem?.1 hy
                            have hj' : new'[j]? = some y := by simpa using hj
                            have hlt : j < new.length := by
                              rw [hnl]
                              rcases Nat.lt_or_ge j new'.size with h' | h'
                              · exact h'
                              · rw [Array.getElem?_eq_none h'] at hj'; cases hj'
                            have hx : new.toArray[j]? = some new[j] := by simp [hlt]
                            have r := hA.has j new[j] y hx hj'
                            rw [r.okCell]
                            exact hA.ok j _ hx)
                          refine ⟨.slice (some ⟨L.g, off + L.sh, none⟩) (n + k) c, _, _, ?_, ?_, post_move W hm hL hFm h4 (sh := off + L.sh) (c1 := (c0.toList.take (off + L.sh + n * L.sz + 0) ++ new'.toList ++ c0.toList.drop (off + L.sh + n * L.sz + 0 + new'.toList.length)).toArray) ?_ ?_ ?_⟩
                          · rw [show [Value.slice (some ⟨L.g, off + L.sh, none⟩) n c, v].toArray = #[Value.slice (some ⟨L.g, off + L.sh, none⟩) n c, v] from rfl, hAdd.fit _ n c hfit (.inr hkb)]
                            simp only [addr_add, hrun, Result.andThen_ok]
                          · have := VRel.slice (β := β.add m.next ⟨L.g, off + L.sh, L.size, L.sz⟩) (off := 0) (n := n + k) (c := c) (Ren.add_self β m.next _) hfit (by simp only; omega)
                            simpa using this
                          · simp; omega
                          · simp; omega
                          · intro j x hj
                            simp only [List.getElem?_toArray]
                            by_cases hjn : j < n * L.sz
                            · rw [List.getElem?_append_left (by simp; omega), List.getElem?_drop] at hj
                              obtain ⟨hk, v0, hv0, r⟩ := h8 (off + j) x hj
                              refine ⟨hk, v0, ?_, r⟩
                              rw [List.append_assoc, List.getElem?_append_left (by simp; omega), List.getElem?_take, if_pos (by omega)]
                              rw [show j + (off + L.sh) = off + j + L.sh by omega]
                              simpa using hv0
                            · rw [List.getElem?_append_right (by simp; omega)] at hj
                              have e1 : j - (cs.drop off).length = j - n * L.sz := by simp; omega
                              rw [e1] at hj
                              obtain ⟨v0, hv0, r⟩ := hA.get (i := j - n * L.sz) (x := x) (by simpa using hj)
                              refine ⟨hA.ok _ x (by simpa using hj), v0, ?_, r⟩
                              have hlt : j - n * L.sz < new'.size := by
                                rcases Nat.lt_or_ge (j - n * L.sz) new'.size with h' | h'
                                · exact h'
                                · rw [Array.getElem?_eq_none h'] at hv0; cases hv0
                              rw [List.append_assoc, List.getElem?_append_right (by simp; omega), List.getElem?_append_left (by simp; omega)]
                              have e2 : j + (off + L.sh) - (c0.toList.take (off + L.sh + n * L.sz + 0)).length = j - n * L.sz := by simp; omega
                              rw [e2]
                              simpa using hv0
                        · -- a new row
                          obtain ⟨old, hold, hoA⟩ := loadCells_rel (off := off) (n := n * L.sz) W hm hL (by omega)
                          obtain ⟨cap, hcap, hrun⟩ := hAdd.grow (some ⟨L.g, off + L.sh, none⟩) n c old hfit hk0 hkb (by simp [Builtin.firstCells, hold w.drew rfl])
                          have hdrop : (cs.drop off).take (n * L.sz) = cs.drop off := List.take_of_length_le (by simp; omega)
                          rw [hdrop] at hoA
                          have hos : old.size = n * L.sz := by have := hoA.size; simp at this; omega
                          have hsize : (old ++ new' ++ Builtin.zeroCells z.cells (cap - (n + k))).size = cap * L.sz := by
                            simp [zeroCells_size, hsz, hzs, hos]
                            rw [← Nat.add_mul, ← Nat.add_mul]
                            congr 1
                            omega
                          refine ⟨_, _, _, hrun, ?_, post_new (L := ⟨w.heap.size, 0, (old ++ new' ++ Builtin.zeroCells z.cells (cap - (n + k))).size, esz P el'⟩) W (Sub.kill m i) ?_ hFm rfl rfl rfl rfl rfl ⟨_, _, (0, 0), rfl, fun _ => rfl, rfl, rfl, ?_, CRel.appended (hoA.append hA), fun _ => .inl rfl⟩⟩
                          · have := VRel.slice (β := β.add m.next ⟨w.heap.size, 0, (old ++ new' ++ Builtin.zeroCells z.cells (cap - (n + k))).size, esz P el'⟩) (off := 0) (n := n + k) (c := cap) (Ren.add_self β m.next _) hcap (by rw [hsize, tsize_esz hs]; simp)
                            simpa [tsize_esz hs] using this
                          · intro j hj hjn
                            simp only [Mem.kill]
                            rw [if_neg]
                            rintro rfl
                            rw [hL] at hjn
                            cases hjn
                          · simp; omega
                    · cases e
                  · cases e
                · cases e
              · cases e
          · cases e
        · cases e
      · cases e
    · cases e
  · cases e
end Go.AM
