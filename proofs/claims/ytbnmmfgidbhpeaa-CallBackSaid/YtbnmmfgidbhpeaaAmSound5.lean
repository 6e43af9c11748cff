/- What the abstract machine does in one operation, the machine does: what makes memory. -/
import Derived.Test.YtbnmmfgidbhpeaaAmSound4
set_option linter.unusedSimpArgs false
set_option linter.unusedVariables false
set_option linter.unusedSimpArgs false
set_option linter.unusedVariables false
namespace Go.AM
open Go
variable {P : Program} {β : Ren} {m : Mem} {w : World}

/-- A value that points to a new block. -/
theorem new_block (W : WRel P β m w) (hF : β m.next = none) {cs : List Value} {c : Array Value} (e : TypeId) {w' : World} (hh : w'.heap = w.heap.push (.cells c e)) (h1 : w'.os = w.os) (h2 : w'.tape = w.tape) (h3 : w'.output = w.output)
    (hl : cs.length ≤ c.size) (hr : CRel β cs c 0) : Post P β m w (m.new (.cells cs e true)) (β.add m.next ⟨w.heap.size, 0, c.size, esz P e⟩) w' :=
  post_new W (Sub.refl m) (fun _ _ _ => rfl) hF rfl hh h1 h2 h3 ⟨c, e, (0, 0), rfl, fun _ => rfl, rfl, rfl, by simpa using hl, hr, fun _ => .inl rfl⟩

theorem opAlloc_rel {t : TypeId} {x : Value} {m' : Mem} (W : WRel P β m w) (hF : Free β m m') (e : opAlloc P t m = some (x, m')) :
    ∃ v w' β', (Instr.alloc t true (.tuple #[])).run P w = .ok v w' ∧ VRel β' x v ∧ Post P β m w m' β' w' := by
  unfold opAlloc at e
  split at e
  · cases e
  · rename_i z hz
    split at e
    · rename_i hc
      obtain ⟨rfl, rfl⟩ := Prod.mk.inj (Option.some.inj e)
      obtain ⟨hr, hk⟩ := zero_rel (β := β) hc
      have hA := hr.cells hk
      refine ⟨.pointer (some ⟨w.heap.size, 0, none⟩), { w with heap := w.heap.push (.cells z.cells t) }, _, ?_, ?_, new_block W (hF _ (Nat.le_refl _) (by simp [Mem.new])) t rfl rfl rfl rfl (by simp) (CRel.of_arel hA)⟩
      · simp [Instr.alloc, run_tzero hz, newVar, newRow, newObj, Sem.run]
      · exact VRel.ptr (off := 0) (Ren.add_self β m.next _)
    · cases e

theorem opBox_rel {t : TypeId} {a u x : Value} {m' : Mem} (W : WRel P β m w) (hF : Free β m m') (ha : VRel β a u) (e : opBox t a m = some (x, m')) :
    ∃ v w' β', (Instr.box t u).run P w = .ok v w' ∧ VRel β' x v ∧ Post P β m w m' β' w' := by
  unfold opBox at e
  split at e
  · rename_i hk
    obtain ⟨rfl, rfl⟩ := Prod.mk.inj (Option.some.inj e)
    have hA := ha.cells hk
    refine ⟨.pointer (some ⟨w.heap.size, 0, none⟩), { w with heap := w.heap.push (.cells u.cells t) }, _, ?_, ?_, new_block W (hF _ (Nat.le_refl _) (by simp [Mem.new])) t rfl rfl rfl rfl (by have := hA.size; simp; omega) (CRel.of_arel hA)⟩
    · simp [Instr.box, newVar, newRow, newObj, Sem.run]
    · exact VRel.ptr (off := 0) (Ren.add_self β m.next _)
  · cases e

theorem zeroRow_size (z : Array Value) (n : Nat) : (zeroRow z n).size = n := by simp [zeroRow]

theorem zeroRow_rel {z : Array Value} {n : Nat} (h : ARel β z z) (hz : 0 < z.size) : ARel β (zeroRow z n) (zeroRow z n) := by
  have hg : ∀ (i : Nat) (x : Value), (zeroRow z n)[i]? = some x → ∃ j : Nat, z[j]? = some x := by
    intro i x hx
    unfold zeroRow at hx
    rw [Array.getElem?_map] at hx
    cases hi : (Array.range n)[i]? with
    | none => rw [hi] at hx; cases hx
    | some k =>
      rw [hi] at hx
      simp only [Option.map_some, Option.some.injEq] at hx
      have hlt : k % z.size < z.size := Nat.mod_lt _ hz
      refine ⟨k % z.size, ?_⟩
      rw [← hx, getElem!_pos z (k % z.size) hlt]
      exact Array.getElem?_eq_getElem hlt
  refine ⟨rfl, fun i x x' h1 h2 => ?_, fun i x h1 => ?_⟩
  · rw [h1] at h2
    obtain rfl := Option.some.inj h2
    obtain ⟨j, hj⟩ := hg i x h1
    exact h.has j x x hj hj
  · obtain ⟨j, hj⟩ := hg i x h1
    exact h.ok j x hj

theorem foldl_size (off : Nat) : ∀ (xs : List Value) (k : Nat) (cs : Array Value), ((xs.zipIdx k).foldl (fun cs (c : Value × Nat) => cs.setIfInBounds (off + c.2) c.1) cs).size = cs.size
  | [], _, _ => rfl
  | x :: r, k, cs => by
    simp only [List.zipIdx_cons, List.foldl_cons]
    rw [foldl_size off r (k + 1)]
    simp

theorem fill_size (place : Nat → Option (Nat × Nat)) : ∀ {parts : List (Nat × Value)} {cs r : Array Value}, Instr.fill place cs parts = some r → r.size = cs.size
  | [], cs, r, e => by obtain rfl := Option.some.inj e; rfl
  | (i, x) :: ps, cs, r, e => by
    simp only [Instr.fill] at e
    split at e
    · cases e
    · split at e
      · cases e
      · rw [fill_size place e, ← Array.foldl_toList, Array.toList_zipIdx]
        exact foldl_size _ _ _ _

theorem opBuildSlice_rel {t : TypeId} {len : Nat} {parts parts' : List (Nat × Value)} {x : Value} {m' : Mem} (W : WRel P β m w) (hF : Free β m m') (hp : PRel β parts parts') (e : opBuildSlice P t len parts m = some (x, m')) :
    ∃ v w' β', (Instr.buildSlice t len parts'.toArray).run P w = .ok v w' ∧ VRel β' x v ∧ Post P β m w m' β' w' := by
  unfold opBuildSlice at e
  split at e
  · rename_i el hu
    split at e
    · rename_i s z hs hz
      split at e
      · rename_i hh
        obtain ⟨h1, h2, h3, h4⟩ := hh
        split at e
        · cases e
        · rename_i cells hf
          obtain ⟨rfl, rfl⟩ := Prod.mk.inj (Option.some.inj e)
          obtain ⟨hr, hk⟩ := zero_rel (β := β) h1
          have hA := hr.cells hk
          obtain ⟨r', hr', ha⟩ := fill_rel _ hp (zeroRow_rel (n := len * s) hA h3) hf
          have hsz : r'.size = len * s := by rw [fill_size _ hr', zeroRow_size]
          refine ⟨.slice (some ⟨w.heap.size, 0, none⟩) len len, { w with heap := w.heap.push (.cells r' el) }, _, ?_, ?_, new_block W (hF _ (Nat.le_refl _) (by simp [Mem.new])) el rfl rfl rfl rfl (by have := ha.size; simp; omega) (CRel.of_arel ha)⟩
          · have hn : ¬ len * s > 2 ^ 24 := by omega
            by_cases h0 : len * s = 0
            · have hr0 : Instr.fill (fun i => some (i * s, s)) ((Array.range (len * s)).map (fun x => (#[] : Array Value)[x % (#[] : Array Value).size]!)) parts' = some r' := by
                rw [← hr']
                congr 1
                unfold zeroRow
                rw [h0]
                simp
              simp only [Instr.buildSlice, Sem.run_bind, run_underlying hu, Result.andThen_ok, run_tsize hs]
              rw [if_neg hn, if_pos h0]
              simp only [Sem.run_bind, Sem.run_pure, Result.andThen_ok]
              rw [hr0]
              simp [newRow, newObj, Sem.run]
            · simp only [Instr.buildSlice, Sem.run_bind, run_underlying hu, Result.andThen_ok, run_tsize hs]
              rw [if_neg hn, if_neg h0]
              simp only [Sem.run_bind, Sem.run_pure, Result.andThen_ok, run_tzero hz]
              have hr1 : Instr.fill (fun i => some (i * s, s)) ((Array.range (len * s)).map (fun x => z.cells[x % z.cells.size]!)) parts' = some r' := hr'
              rw [hr1]
              simp [newRow, newObj, Sem.run]
          · have := VRel.slice (β := β.add m.next ⟨w.heap.size, 0, r'.size, esz P el⟩) (off := 0) (n := len) (c := len) (Ren.add_self β m.next _) (Nat.le_refl _) (by simp [tsize_esz hs]; omega)
            simpa [tsize_esz hs] using this
      · cases e
    · cases e
  · cases e

theorem run_askRoom (n : Nat) : (askRoom n).run P w = .ok () w := by
  unfold askRoom
  split <;> rfl

theorem opMakeSlice_rel {t : TypeId} {a b u v x : Value} {m' : Mem} (W : WRel P β m w) (hF : Free β m m') (ha : VRel β a u) (hb : VRel β b v) (e : opMakeSlice P t a b m = some (x, m')) :
    ∃ z w' β', (Instr.makeSlice t u v).run P w = .ok z w' ∧ VRel β' x z ∧ Post P β m w m' β' w' := by
  unfold opMakeSlice at e
  split at e
  · rename_i el k n k' n' hu
    split at e
    · rename_i s z b hs hz hbt
      split at e
      · rename_i hh
        obtain ⟨rfl, h1, h2, h3, h4, h5, h6⟩ := hh
        obtain ⟨rfl, rfl⟩ := Prod.mk.inj (Option.some.inj e)
        cases ha; cases hb
        obtain ⟨hr, hk⟩ := zero_rel (β := β) h4
        have hA := hr.cells hk
        obtain ⟨i, hi, hib⟩ := run_tinfo (w := w) hbt
        have hw : IntKind.i64.wrap n = n := by
          rw [IntKind.wrap_i64]
          omega
        have hzr := zeroRow_rel (n := n.toNat * s) hA (by omega)
        refine ⟨.slice (some ⟨w.heap.size, 0, none⟩) n.toNat n.toNat, { w with heap := w.heap.push (.cells (zeroRow z.cells (n.toNat * s)) el) }, _, ?_, ?_, new_block W (hF _ (Nat.le_refl _) (by simp [Mem.new])) el rfl rfl rfl rfl (by simp) (CRel.of_arel hzr)⟩
        · have hb1 : (i.bytes : Int) * n ≤ 140737488355328 := by
            rw [hib]
            have h7 := Int.ofNat_le.2 h2
            rw [Int.natCast_mul, Int.toNat_of_nonneg h1, Int.mul_comm] at h7
            exact h7
          simp only [Instr.makeSlice, Sem.run_bind, run_underlying hu, Result.andThen_ok, asInt, asIntOf, Sem.run_pure, hi, hw]
          rw [if_neg (by
            have h8 : (i.bytes : Int) * n ≤ 281474976710656 := by omega
            have h9 : ¬ n < 0 := by omega
            simp [h8, h9])]
          simp only [Sem.run_bind, Sem.run_pure, Result.andThen_ok]
          rw [run_askRoom]
          simp only [Result.andThen_ok, run_tsize hs]
          by_cases h0 : n.toNat * s = 0
          · rw [if_pos h0]
            have hz0 : zeroRow z.cells (n.toNat * s) = Array.map (fun x => (#[] : Array Value)[x % (#[] : Array Value).size]!) (Array.range (n.toNat * s)) := by
              unfold zeroRow
              rw [h0]
              simp
            rw [hz0]
            simp [newRow, newObj, Sem.run]
          · rw [if_neg h0]
            simp [run_tzero hz, newRow, newObj, Sem.run, zeroRow]
        · have := VRel.slice (β := β.add m.next ⟨w.heap.size, 0, (zeroRow z.cells (n.toNat * s)).size, esz P el⟩) (off := 0) (n := n.toNat) (c := n.toNat) (Ren.add_self β m.next _) (Nat.le_refl _) (by simp [tsize_esz hs, zeroRow_size])
          simpa [tsize_esz hs] using this
      · cases e
    · cases e
  · cases e

/-- What a slice shows, as the machine reads it. -/
theorem shown_rel {s n j : Nat} {a : Option Addr} {q : Nat} {u : Value} {cs : List Value} (W : WRel P β m w) (hj : j ≤ n) (ha : VRel β (.slice a n q) u) (e : shown s j (.slice a n q) m = some cs) :
    ∃ vs : Array Value, (∀ w' : World, w'.heap = w.heap → (Builtin.firstCells s j u).run P w' = .ok vs w') ∧ ARel β cs.toArray vs ∧ vs.size = j * s := by
  unfold shown at e
  split at e
  · rename_i heq
    injection heq with h1 h2 h3
    subst h1
    cases ha
    obtain rfl : j = 0 := by omega
    rw [if_pos rfl] at e
    obtain rfl := Option.some.inj e
    exact ⟨#[], fun w' _ => by simp [Builtin.firstCells], ⟨rfl, fun i x x' h => by simp at h, fun i x h => by simp at h⟩, by simp⟩
  · rename_i i off n1 q1 heq
    injection heq with h1 h2 h3
    subst h1
    split at e
    · rename_i h0
      subst h0
      obtain rfl := Option.some.inj e
      refine ⟨#[], fun w' _ => ?_, ⟨rfl, fun i x x' h => by simp at h, fun i x h => by simp at h⟩, by simp⟩
      cases ha <;> simp [Builtin.firstCells, loadCells, loadCellsFrom]
    · rename_i h0
      split at e
      · rename_i cs0 el own hm
        split at e
        · rename_i hle
          obtain rfl := Option.some.inj e
          cases ha with
          | sliceEmpty => exact absurd (Nat.le_zero.1 hj) h0
          | slice hL hn hc =>
            rename_i c L
            obtain ⟨vs, hvs, r⟩ := loadCells_rel W hm hL hle
            refine ⟨vs, fun w' hw' => by simp [Builtin.firstCells, hvs w' hw'], r, ?_⟩
            have := r.size
            simp at this
            omega
        · cases e
      · cases e
  · cases e

theorem bytesRow_rel (b : ByteArray) : ARel β (cellsOfBytes b).toArray (b.data.map fun c => .int .u8 c.toNat) := by
  refine ⟨by simp [cellsOfBytes], fun i x x' h1 h2 => ?_, fun i x h1 => ?_⟩
  · unfold cellsOfBytes at h1
    simp only [List.getElem?_toArray, List.getElem?_map, Array.getElem?_toList] at h1
    rw [Array.getElem?_map] at h2
    rw [h1] at h2
    obtain rfl := Option.some.inj h2
    cases hb : b.data[i]? with
    | none => rw [hb] at h1; cases h1
    | some c => rw [hb] at h1; obtain rfl := Option.some.inj h1; exact .int _ _
  · unfold cellsOfBytes at h1
    simp only [List.getElem?_toArray, List.getElem?_map, Array.getElem?_toList] at h1
    cases hb : b.data[i]? with
    | none => rw [hb] at h1; cases h1
    | some c => rw [hb] at h1; obtain rfl := Option.some.inj h1; rfl


end Go.AM
