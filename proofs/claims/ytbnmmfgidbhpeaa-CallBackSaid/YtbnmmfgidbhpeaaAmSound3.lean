/- What the abstract machine does in one operation, the machine does: addresses, reads. -/
import Derived.Test.YtbnmmfgidbhpeaaAmSound2
import Derived.Laws.Cells
import Derived.Laws.Tables
import Derived.Laws.BytesString
set_option linter.unusedSimpArgs false
set_option linter.unusedVariables false
set_option linter.unusedSimpArgs false
set_option linter.unusedVariables false
namespace Go.AM
open Go
variable {P : Program} {β : Ren} {m : Mem} {w : World}

theorem addr_add (g o n : Nat) : (⟨g, o, none⟩ : Addr).add n = ⟨g, o + n, none⟩ := by
  unfold Addr.add
  split
  · rename_i h; subst h; rfl
  · rfl

theorem opFieldAddr_rel {s : TypeId} {a u x : Value} {f : Nat} (ha : VRel β a u) (e : opFieldAddr P s a f = some x) :
    ∃ v, (Instr.fieldAt s u f).run P w = .ok v w ∧ VRel β x v := by
  unfold opFieldAddr at e
  split at e
  · rename_i fields i off hu
    split at e
    · rename_i fd hf
      split at e
      · cases e
      · rename_i n hz hn
        obtain rfl := Option.some.inj e
        cases ha with
        | ptr hL =>
          rename_i L
          refine ⟨.pointer (some ⟨L.g, off + L.sh + fd.offset, none⟩), ?_, ?_⟩
          · have hz' : ¬ n = 0 := fun h => hz h
            simp [Instr.fieldAt, run_underlying hu, hf, Instr.sureAddr, fieldPlace, run_tsize hn, hz', addr_add]
          · have := VRel.ptr (β := β) (off := off + fd.offset) hL
            rw [Nat.add_right_comm] at this
            exact this
      · cases e
    · cases e
  · cases e

theorem opField_rel {t : TypeId} {a u x : Value} {f : Nat} (ha : VRel β a u) (e : opField P t a f = some x) :
    ∃ v, (Instr.field t u f).run P w = .ok v w ∧ VRel β x v := by
  unfold opField at e
  split at e
  · rename_i fields cs hu
    split at e
    · rename_i fd hf
      obtain ⟨us, rfl, ra⟩ := ARel.of_agg ha
      obtain ⟨v, hv, r⟩ := part_rel (w := w) ra e
      exact ⟨v, by simp [Instr.field, run_underlying hu, hf, asAgg, hv], r⟩
    · cases e
  · cases e

theorem opIndexAddr_rel {t : TypeId} {a b u v x : Value} (ha : VRel β a u) (hb : VRel β b v) (e : opIndexAddr P t a b = some x) :
    ∃ z, (Instr.indexAt t u v).run P w = .ok z w ∧ VRel β x z := by
  unfold opIndexAddr at e
  split at e
  · rename_i el i off n q k0 k hu
    split at e
    · rename_i s hs
      split at e
      · rename_i hk
        obtain rfl := Option.some.inj e
        cases hb
        cases ha with
        | sliceEmpty => omega
        | slice hL hn hc =>
          rename_i c L
          refine ⟨.pointer (some ⟨L.g, off + L.sh + k.toNat * s, none⟩), ?_, ?_⟩
          · simp [Instr.indexAt, asIntOf, run_underlying hu, hk.1, hk.2, run_tsize hs, addr_add]
          · have := VRel.ptr (β := β) (off := off + k.toNat * s) hL
            rw [Nat.add_right_comm] at this
            exact this
      · cases e
    · cases e
  · rename_i n el i off k0 k hu
    split at e
    · rename_i s hs
      split at e
      · rename_i hk
        obtain rfl := Option.some.inj e
        cases hb
        cases ha with
        | ptr hL =>
          rename_i L
          refine ⟨.pointer (some ⟨L.g, off + L.sh + k.toNat * s, none⟩), ?_, ?_⟩
          · simp [Instr.indexAt, asIntOf, run_underlying hu, Instr.sureAddr, hk.1, hk.2, run_tsize hs, addr_add]
          · have := VRel.ptr (β := β) (off := off + k.toNat * s) hL
            rw [Nat.add_right_comm] at this
            exact this
      · cases e
    · cases e
  · cases e

theorem opIndex_rel {t : TypeId} {a b u v x : Value} (ha : VRel β a u) (hb : VRel β b v) (e : opIndex P t a b = some x) :
    ∃ z, (Instr.index t u v).run P w = .ok z w ∧ VRel β x z := by
  unfold opIndex at e
  split at e
  · rename_i s k0 k hu
    split at e
    · rename_i hk
      split at e
      · rename_i c hc
        obtain rfl := Option.some.inj e
        cases hb; cases ha
        refine ⟨.int .u8 c.toNat, ?_, .int _ _⟩
        have hg : s[k.toNat]? = some c := by
          have := hc
          rw [Array.getElem?_eq_some_iff] at this
          obtain ⟨h1, h2⟩ := this
          have h3 : k.toNat < s.size := h1
          rw [getElem?_pos s k.toNat h3]
          exact congrArg some h2
        simp [Instr.index, asIntOf, run_underlying hu, hk, hg]
      · cases e
    · cases e
  · rename_i n el cs k0 k hu
    split at e
    · rename_i s hs
      split at e
      · rename_i hk
        cases hb
        obtain ⟨us, rfl, ra⟩ := ARel.of_agg ha
        obtain ⟨z, hz, r⟩ := part_rel (w := w) ra e
        exact ⟨z, by simp [Instr.index, asIntOf, run_underlying hu, hk.1, hk.2, run_tsize hs, hz], r⟩
      · cases e
    · cases e
  · cases e

theorem opLen_rel {t : TypeId} {ts : List TypeId} {a u x : Value} {ty : TypeId} (ha : VRel β a u) (e : opLen P (some t) a = some x) :
    (Builtin.len_ (t :: ts).toArray ty #[u]).run P w = .ok x w ∧ VRel β x x := by
  unfold opLen at e
  simp only at e
  split at e
  · rename_i s hu
    cases ha; obtain rfl := Option.some.inj e
    exact ⟨by simp [Builtin.len_, run_underlying hu, goInt], .int _ _⟩
  · rename_i hu
    obtain rfl := Option.some.inj e
    cases ha <;> exact ⟨by simp [Builtin.len_, run_underlying hu, goInt], .int _ _⟩
  · rename_i hu
    obtain rfl := Option.some.inj e
    exact ⟨by simp [Builtin.len_, run_underlying hu, goInt], .int _ _⟩
  · cases e

theorem foldMin_rel : ∀ {xs vs : List Value} {a u x : Value}, VRel β a u → LRel β xs vs → foldV min2V a xs = some x →
    ∃ z, (vs.foldlM Builtin.min2 u).run P w = .ok z w ∧ VRel β x z
  | [], [], a, u, x, ha, _, e => by
    obtain rfl := Option.some.inj e
    exact ⟨u, rfl, ha⟩
  | y :: r, v :: s, a, u, x, ha, h, e => by
    simp only [foldV] at e
    split at e
    · rename_i z hz
      unfold min2V at hz
      split at hz
      · cases ha
        have hy := h.1
        cases hy
        obtain rfl := Option.some.inj hz
        obtain ⟨z, hz, r⟩ := foldMin_rel (.int _ _) h.2 e
        exact ⟨z, by simp [Builtin.min2, hz], r⟩
      · cases hz
    · cases e
  | [], _ :: _, _, _, _, _, h, _ => h.elim
  | _ :: _, [], _, _, _, _, h, _ => h.elim

theorem foldMax_rel : ∀ {xs vs : List Value} {a u x : Value}, VRel β a u → LRel β xs vs → foldV max2V a xs = some x →
    ∃ z, (vs.foldlM Builtin.max2 u).run P w = .ok z w ∧ VRel β x z
  | [], [], a, u, x, ha, _, e => by
    obtain rfl := Option.some.inj e
    exact ⟨u, rfl, ha⟩
  | y :: r, v :: s, a, u, x, ha, h, e => by
    simp only [foldV] at e
    split at e
    · rename_i z hz
      unfold max2V at hz
      split at hz
      · cases ha
        have hy := h.1
        cases hy
        obtain rfl := Option.some.inj hz
        obtain ⟨z, hz, r⟩ := foldMax_rel (.int _ _) h.2 e
        exact ⟨z, by simp [Builtin.max2, hz], r⟩
      · cases hz
    · cases e
  | [], _ :: _, _, _, _, _, h, _ => h.elim
  | _ :: _, [], _, _, _, _, h, _ => h.elim

/-- The machine's cells at the place of a known block. -/
theorem WRel.anyCells {i : Nat} {cs : List Value} {e : TypeId} {own : Bool} {L : Loc} (W : WRel P β m w) (h : m.get i = some (.cells cs e own)) (hL : β i = some L) :
    ∃ c e' fr, w.heap[L.g]? = some (.cells c e' fr) ∧ c.size = L.size ∧ L.sz = esz P e ∧ cs.length + L.sh ≤ c.size ∧ CRel β cs c L.sh := by
  obtain ⟨c, e', fr, h1, _, h2, h3, h4, h5, _⟩ := W.blk i _ L h hL
  exact ⟨c, e', fr, h1, h2, h3, h4, h5⟩

/-- .. of one of the call's own. -/
theorem WRel.cells {i : Nat} {cs : List Value} {e : TypeId} {L : Loc} (W : WRel P β m w) (h : m.get i = some (.cells cs e true)) (hL : β i = some L) :
    ∃ c fr, w.heap[L.g]? = some (.cells c e fr) ∧ c.size = L.size ∧ L.sz = esz P e ∧ cs.length + L.sh ≤ c.size ∧ CRel β cs c L.sh ∧
      (true = true → fr.1 = fr.2 ∨ c.size ≤ fr.1) := by
  obtain ⟨c, e', fr, h1, h0, h2⟩ := W.blk i _ L h hL
  obtain rfl := h0 rfl
  exact ⟨c, fr, h1, h2⟩

theorem cell_of {g : Nat} {c : Array Value} {e : TypeId} {fr : Nat × Nat} (h : w.heap[g]? = some (.cells c e fr)) (j : Nat) : w.cell? ⟨g, j, none⟩ = c[j]? := by
  simp [World.cell?, h]

/-- A stretch of cells, read. -/
theorem loadCells_rel {i off n : Nat} {cs : List Value} {e : TypeId} {own : Bool} {L : Loc} (W : WRel P β m w) (h : m.get i = some (.cells cs e own)) (hL : β i = some L)
    (hn : off + n ≤ cs.length) : ∃ vs : Array Value, (∀ w' : World, w'.heap = w.heap → (loadCells ⟨L.g, off + L.sh, none⟩ n).run P w' = .ok vs w') ∧ ARel β ((cs.drop off).take n).toArray vs := by
  obtain ⟨c, e', fr, h1, h2, h3, h4, h5⟩ := W.anyCells h hL
  have hget : ∀ j, j < n → ∃ x v, cs[off + j]? = some x ∧ okCell x = true ∧ c[off + j + L.sh]? = some v ∧ VRel β x v := by
    intro j hj
    have hj' : off + j < cs.length := by omega
    obtain ⟨a, v, hv, r⟩ := h5 (off + j) cs[off + j] (List.getElem?_eq_getElem hj')
    exact ⟨_, v, List.getElem?_eq_getElem hj', a, hv, r⟩
  refine ⟨((List.range n).map fun j => (c[off + j + L.sh]?).getD undef).toArray, fun w' hw' => ?_, ?_⟩
  · rw [run_loadCells w' _ n (fun j => (c[off + j + L.sh]?).getD undef) (fun j hj => ?_)]
    obtain ⟨x, v, _, _, hv, _⟩ := hget j hj
    rw [addr_add, cell_of (by rw [hw']; exact h1), show off + L.sh + j = off + j + L.sh by omega, hv]
    rfl
  · refine ⟨by simp; omega, fun j x x' hx hx' => ?_, fun j x hx => ?_⟩
    · simp only [List.getElem?_toArray] at hx hx'
      rw [List.getElem?_take] at hx
      split at hx
      · rename_i hj
        obtain ⟨y, v, hy, _, hv, r⟩ := hget j hj
        rw [List.getElem?_drop, hy] at hx
        obtain rfl := Option.some.inj hx
        rw [List.getElem?_map, List.getElem?_range hj] at hx'
        simp only [Option.map_some, hv, Option.getD_some, Option.some.injEq] at hx'
        subst hx'
        exact r
      · cases hx
    · simp only [List.getElem?_toArray] at hx
      rw [List.getElem?_take] at hx
      split at hx
      · rename_i hj
        obtain ⟨y, v, hy, hk, _, _⟩ := hget j hj
        rw [List.getElem?_drop, hy] at hx
        obtain rfl := Option.some.inj hx
        exact hk
      · cases hx

theorem opLoad_rel {t : TypeId} {a u x : Value} (W : WRel P β m w) (ha : VRel β a u) (e : opLoad P t a m = some x) :
    ∃ v, (Instr.loadAt t u).run P w = .ok v w ∧ VRel β x v := by
  unfold opLoad at e
  split at e
  · rename_i i off
    split at e
    · rename_i cs el own hm
      cases ha with
      | ptr hL =>
        rename_i L
        split at e
        · rename_i hg
          split at e
          · rename_i n hn
            split at e
            · rename_i hle
              obtain rfl := Option.some.inj e
              obtain ⟨vs, hvs, r⟩ := loadCells_rel W hm hL hle
              exact ⟨.agg vs, by simp [Instr.loadAt, Instr.sureAddr, loadVar, run_agg hg, run_tsize hn, hvs w rfl], r.agg⟩
            · cases e
          · cases e
        · rename_i hg
          obtain ⟨c, e', fr, h1, h2, h3, h4, h5⟩ := W.anyCells hm hL
          obtain ⟨hk, v, hv, r⟩ := h5 off x e
          refine ⟨v, ?_, r⟩
          have : w.cell? ⟨L.g, off + L.sh, none⟩ = some v := by rw [cell_of h1]; exact hv
          simp [Instr.loadAt, Instr.sureAddr, loadVar, run_agg hg, this]
        · cases e
    · cases e
  · cases e

theorem bound_run {o : Option Value} {ov : Option Value} {d y : Nat} {h : Nat} {code : BoundsCode}
    (hr : match o, ov with | none, none => True | some a, some u => VRel β a u | _, _ => False) (e : boundOf o d = some h) :
    (o = none ∧ ov = none ∧ h = d) ∨ (∃ u, ov = some u ∧ (h ≤ y → (Instr.sliceBound u y code).run P w = .ok h w)) := by
  unfold boundOf at e
  split at e
  · cases ov with
    | none => exact .inl ⟨rfl, rfl, (Option.some.inj e).symm⟩
    | some u => exact hr.elim
  · rename_i k i
    cases ov with
    | none => exact hr.elim
    | some u =>
      cases hr
      split at e
      · rename_i h0
        obtain rfl := Option.some.inj e
        refine .inr ⟨_, rfl, fun hy => ?_⟩
        have : 0 ≤ i ∧ i ≤ (y : Int) := ⟨h0, by omega⟩
        simp [Instr.sliceBound, asIntOf, this.1, this.2]
      · cases e
  · cases e

def ORel (β : Ren) : Option Value → Option Value → Prop
  | none, none => True
  | some a, some u => VRel β a u
  | _, _ => False

theorem evOpt_rel {N : Nat} {env : Env} {a : Act} (h : ERel β N env a) {o : Option Operand} {x : Option Value} (e : evOpt env o = some x) : ORel β x (o.map a.eval) := by
  cases o with
  | none => obtain rfl := Option.some.inj e; trivial
  | some o =>
    simp only [evOpt] at e
    split at e
    · rename_i v hv
      obtain rfl := Option.some.inj e
      exact ev1_rel h hv
    · cases e

theorem bounds_run {lo hi lo' hi' : Option Value} {n c l h : Nat} {b : Bool} (hlo : ORel β lo lo') (hhi : ORel β hi hi') (e1 : boundOf hi n = some h) (e2 : boundOf lo 0 = some l)
    (hlh : l ≤ h) (hc : h ≤ c) : (Instr.sliceBounds b n c lo' hi' none).run P w = .ok (l, h, c) w := by
  have k1 := bound_run (P := P) (w := w) (β := β) (y := c) (code := if b then .sliceAcap else .sliceAlen) (o := hi) (ov := hi') (by cases hi <;> cases hi' <;> exact hhi) e1
  have k2 := bound_run (P := P) (w := w) (β := β) (y := h) (code := .sliceB) (o := lo) (ov := lo') (by cases lo <;> cases lo' <;> exact hlo) e2
  rcases k1 with ⟨rfl, rfl, rfl⟩ | ⟨u, rfl, k1⟩
  · rcases k2 with ⟨rfl, rfl, rfl⟩ | ⟨v, rfl, k2⟩
    · simp [Instr.sliceBounds]
    · simp [Instr.sliceBounds, k2 hlh]
  · rcases k2 with ⟨rfl, rfl, rfl⟩ | ⟨v, rfl, k2⟩
    · simp [Instr.sliceBounds, k1 hc]
    · simp [Instr.sliceBounds, k1 hc, k2 hlh]

theorem opSlice_rel {t : TypeId} {a u x : Value} {lo hi lo' hi' : Option Value} (ha : VRel β a u) (hlo : ORel β lo lo') (hhi : ORel β hi hi') (e : opSlice P t a lo hi = some x) :
    ∃ v, (Instr.sliceAt t u lo' hi' none).run P w = .ok v w ∧ VRel β x v := by
  unfold opSlice at e
  split at e
  · rename_i s hu
    split at e
    · rename_i h l h1 h2
      split at e
      · rename_i hb
        obtain rfl := Option.some.inj e
        cases ha
        have hr := bounds_run (P := P) (w := w) (b := false) hlo hhi h1 h2 hb.1 hb.2
        exact ⟨.string (s.extract l h), by simp [Instr.sliceAt, Instr.slice, run_underlying hu, hr], .string _⟩
      · cases e
    · cases e
  · rename_i el a' n z hu
    split at e
    · rename_i h l h1 h2
      split at e
      · rename_i hb
        split at e
        · split at e
          · rename_i s hs
            obtain rfl := Option.some.inj e
            cases ha
            obtain rfl : h = 0 := by omega
            obtain rfl : l = 0 := by omega
            have hr := bounds_run (P := P) (w := w) (b := true) (c := 0) hlo hhi h1 h2 (Nat.le_refl _) (Nat.le_refl _)
            exact ⟨.slice none 0 0, by simp [Instr.sliceAt, Instr.slice, run_underlying hu, hr, run_tsize hs], .sliceNil⟩
          · cases e
        · rename_i i off
          split at e
          · rename_i hz
            obtain rfl := Option.some.inj e
            cases ha with
            | sliceEmpty hL =>
              obtain rfl : h = 0 := by omega
              obtain rfl : l = 0 := by omega
              have hr := bounds_run (P := P) (w := w) (b := true) (c := 0) hlo hhi h1 h2 (Nat.le_refl _) (Nat.le_refl _)
              rename_i a' L
              exact ⟨.slice (some a') 0 0, by simp [Instr.sliceAt, Instr.slice, run_underlying hu, hr, run_tsize hz], .sliceEmpty hL⟩
            | slice hL hn hc =>
              rename_i c L
              have hr := bounds_run (P := P) (w := w) (b := true) (c := c) hlo hhi h1 h2 hb.1 (Nat.le_trans hb.2 hn)
              by_cases hcl : c = l
              · subst hcl
                obtain rfl : h = c := by omega
                refine ⟨.slice (some ⟨L.g, off + L.sh, none⟩) 0 0, by simp [Instr.sliceAt, Instr.slice, run_underlying hu, hr, run_tsize hz], ?_⟩
                rw [Nat.sub_self]
                exact .sliceEmpty hL
              · refine ⟨.slice (some ⟨L.g, off + l * L.sz + L.sh, none⟩) (h - l) (c - l), ?_, .slice hL (by omega) ?_⟩
                · simp [Instr.sliceAt, Instr.slice, run_underlying hu, hr, run_tsize hz, hcl, addr_add, Nat.add_right_comm]
                · have : (c - l) * L.sz + l * L.sz = c * L.sz := by rw [← Nat.add_mul]; congr 1; omega
                  omega
          · cases e
        · cases e
      · cases e
    · cases e
  · cases e

theorem bytes_rel : ∀ {cs : List Value} {l : List UInt8} {vs : List Value}, LRel β cs vs → bytesOfCells cs = some l → ∃ ns : List Int, vs = ns.map (Value.int .u8) ∧ l = ns.map fun n => UInt8.ofNat n.toNat
  | [], l, [], _, e => by obtain rfl := Option.some.inj e; exact ⟨[], rfl, rfl⟩
  | x :: r, l, v :: s, h, e => by
    unfold bytesOfCells at e
    split at e
    · rename_i heq; cases heq
    · rename_i n r' heq
      obtain ⟨rfl, rfl⟩ := List.cons.inj heq
      split at e
      · cases e
      · rename_i l' hl'
        obtain rfl := Option.some.inj e
        have hx := h.1
        cases hx
        obtain ⟨ns, rfl, rfl⟩ := bytes_rel h.2 hl'
        exact ⟨n :: ns, rfl, rfl⟩
    · cases e
  | [], _, _ :: _, h, _ => h.elim
  | _ :: _, _, [], h, _ => h.elim
end Go.AM
