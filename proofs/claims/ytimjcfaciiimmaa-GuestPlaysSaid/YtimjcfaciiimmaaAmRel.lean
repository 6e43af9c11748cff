/- How the abstract memory and the machine's memory go together. -/
import Derived.Test.YtimjcfaciiimmaaAmCore
import Derived.Laws.Sem
import Derived.Laws.World
set_option linter.unusedSimpArgs false
set_option linter.unusedVariables false
namespace Go.AM
open Go

/-- Where a named block lies: the machine's block, what is added to an offset, its cells, an element's cells. -/
structure Loc where
  g : Nat
  sh : Nat
  size : Nat
  sz : Nat

abbrev Ren := Nat → Option Loc

inductive VRel (β : Ren) : Value → Value → Prop
  | bool (b : Bool) : VRel β (.bool b) (.bool b)
  | int (k : IntKind) (n : Int) : VRel β (.int k n) (.int k n)
  | float (k : FloatKind) (n : Nat) : VRel β (.float k n) (.float k n)
  | string (s : ByteArray) : VRel β (.string s) (.string s)
  | nilFunc : VRel β .nilFunc .nilFunc
  | nilIface : VRel β .nilIface .nilIface
  | ptrNil : VRel β (.pointer none) (.pointer none)
  | ptr {i off : Nat} {L : Loc} (h : β i = some L) : VRel β (.pointer (some ⟨i, off, none⟩)) (.pointer (some ⟨L.g, off + L.sh, none⟩))
  | sliceNil : VRel β (.slice none 0 0) (.slice none 0 0)
  | sliceEmpty {i off z : Nat} {a : Addr} {L : Loc} (h : β i = some L) : VRel β (.slice (some ⟨i, off, none⟩) 0 z) (.slice (some a) 0 0)
  | slice {i off n c : Nat} {L : Loc} (h : β i = some L) (hn : n ≤ c) (hc : off + L.sh + c * L.sz ≤ L.size) :
      VRel β (.slice (some ⟨i, off, none⟩) n L.sz) (.slice (some ⟨L.g, off + L.sh, none⟩) n c)
  | mapNil : VRel β (.map none) (.map none)
  | map {i : Nat} {L : Loc} (h : β i = some L) : VRel β (.map (some i)) (.map (some L.g))
  | func {f : FuncId} {cs cs' : Array Value} (hs : cs.size = cs'.size) (h : ∀ (i : Nat) (x x' : Value), cs[i]? = some x → cs'[i]? = some x' → VRel β x x') :
      VRel β (.func (.func f) #[] cs) (.func (.func f) #[] cs')
  | agg {cs cs' : Array Value} (hs : cs.size = cs'.size) (h : ∀ (i : Nat) (x x' : Value), cs[i]? = some x → cs'[i]? = some x' → VRel β x x')
      (hk : ∀ (i : Nat) (x : Value), cs[i]? = some x → okCell x = true) : VRel β (.agg cs) (.agg cs')
  | tuple {cs cs' : Array Value} (hs : cs.size = cs'.size) (h : ∀ (i : Nat) (x x' : Value), cs[i]? = some x → cs'[i]? = some x' → VRel β x x') :
      VRel β (.tuple cs) (.tuple cs')

def Le (β β' : Ren) : Prop := ∀ i L, β i = some L → β' i = some L
theorem Le.refl (β : Ren) : Le β β := fun _ _ h => h
theorem Le.trans {a b c : Ren} (h : Le a b) (k : Le b c) : Le a c := fun i L e => k i L (h i L e)

theorem VRel.mono {β β' : Ren} (hb : Le β β') {x v : Value} (h : VRel β x v) : VRel β' x v := by
  induction h with
  | bool b => exact .bool b
  | int k n => exact .int k n
  | float k n => exact .float k n
  | string s => exact .string s
  | nilFunc => exact .nilFunc
  | nilIface => exact .nilIface
  | ptrNil => exact .ptrNil
  | ptr h => exact .ptr (hb _ _ h)
  | sliceNil => exact .sliceNil
  | sliceEmpty h => exact .sliceEmpty (hb _ _ h)
  | slice h hn hc => exact .slice (hb _ _ h) hn hc
  | mapNil => exact .mapNil
  | map h => exact .map (hb _ _ h)
  | func hs h ih => exact .func hs ih
  | agg hs h hk ih => exact .agg hs ih hk
  | tuple hs h ih => exact .tuple hs ih

theorem VRel.okCell {β : Ren} {x v : Value} (h : VRel β x v) : okCell v = okCell x := by
  cases h <;> rfl

/-- Cells, one by one. -/
def CRel (β : Ren) (cs : List Value) (c : Array Value) (sh : Nat) : Prop :=
  ∀ i x, cs[i]? = some x → okCell x = true ∧ ∃ v, c[i + sh]? = some v ∧ VRel β x v

theorem CRel.mono {β β' : Ren} (hb : Le β β') {cs : List Value} {c : Array Value} {sh : Nat} (h : CRel β cs c sh) : CRel β' cs c sh :=
  fun i x hx => let ⟨a, v, hv, r⟩ := h i x hx; ⟨a, v, hv, r.mono hb⟩

def BRel (P : Program) (β : Ren) (L : Loc) : Blk → Option Obj → Prop
  | .cells cs e own, o => ∃ c e' fr, o = some (.cells c e' fr) ∧ (own = true → e' = e) ∧ c.size = L.size ∧ L.sz = esz P e ∧ cs.length + L.sh ≤ c.size ∧ CRel β cs c L.sh ∧
      (own = true → fr.1 = fr.2 ∨ c.size ≤ fr.1)
  | .map es, o => ∃ c clk, o = some (.map c clk) ∧ es.length = c.size ∧ ∀ (i : Nat) (e : Value × Value) (e' : MapEntry), es[i]? = some e → c[i]? = some e' → VRel β e.1 e'.key ∧ VRel β e.2 e'.val

theorem BRel.mono {P : Program} {β β' : Ren} (hb : Le β β') {L : Loc} {b : Blk} {o : Option Obj} (h : BRel P β L b o) : BRel P β' L b o := by
  cases b with
  | cells cs e own => obtain ⟨c, e', fr, h1, h0, h2, h3, h4, h5, h6⟩ := h; exact ⟨c, e', fr, h1, h0, h2, h3, h4, h5.mono hb, h6⟩
  | map es => obtain ⟨c, clk, h1, h2, h3⟩ := h; exact ⟨c, clk, h1, h2, fun i e e' he he' => ⟨(h3 i e e' he he').1.mono hb, (h3 i e e' he he').2.mono hb⟩⟩

structure WRel (P : Program) (β : Ren) (m : Mem) (w : World) : Prop where
  blk : ∀ i b L, m.get i = some b → β i = some L → BRel P β L b (w.heap[L.g]?)
  inj : ∀ i j bi bj L L', m.get i = some bi → m.get j = some bj → β i = some L → β j = some L' → L.g = L'.g → (bi.own = true ∨ bj.own = true) → i = j
  dom : ∀ i b L, m.get i = some b → β i = some L → L.g < w.heap.size
  fresh : ∀ i, m.next ≤ i → m.get i = none

structure Frame (β : Ren) (m : Mem) (w w' : World) : Prop where
  os : w'.os = w.os
  tape : w'.tape = w.tape
  output : w'.output = w.output
  size : w.heap.size ≤ w'.heap.size
  block : ∀ g, g < w.heap.size → (∀ i b L, m.get i = some b → b.own = true → β i = some L → L.g ≠ g) → w'.heap[g]? = w.heap[g]?

theorem Frame.refl (β : Ren) (m : Mem) (w : World) : Frame β m w w := ⟨rfl, rfl, rfl, Nat.le_refl _, fun _ _ _ => rfl⟩

/-- What a step that goes from m to m' leaves of the rest. -/
structure Post (P : Program) (β : Ren) (m : Mem) (w : World) (m' : Mem) (β' : Ren) (w' : World) : Prop where
  rel : WRel P β' m' w'
  frame : Frame β m w w'
  le : m.next ≤ m'.next
  out : ∀ i, (i < m.next ∨ m'.next ≤ i) → β' i = β i
  low : ∀ i, i < m.next → β i = none → m'.get i = m.get i
  own : ∀ i b, i < m.next → m'.get i = some b → b.own = true → ∃ b0, m.get i = some b0 ∧ b0.own = true
  far : ∀ i L, m.next ≤ i → i < m'.next → β' i = some L → w.heap.size ≤ L.g ∨ ∃ j b Lj, m.get j = some b ∧ b.own = true ∧ β j = some Lj ∧ Lj.g = L.g

def Free (β : Ren) (m m' : Mem) : Prop := ∀ i, m.next ≤ i → i < m'.next → β i = none

theorem Post.ext {P : Program} {β β' : Ren} {m m' : Mem} {w w' : World} (h : Post P β m w m' β' w') (hf : Free β m m') : Le β β' := by
  intro i L hi
  by_cases h1 : i < m.next
  · rw [h.out i (.inl h1)]; exact hi
  · by_cases h2 : i < m'.next
    · rw [hf i (by omega) h2] at hi; cases hi
    · rw [h.out i (.inr (by omega))]; exact hi

theorem Post.refl {P : Program} {β : Ren} {m : Mem} {w : World} (h : WRel P β m w) : Post P β m w m β w :=
  ⟨h, Frame.refl _ _ _, Nat.le_refl _, fun _ _ => rfl, fun _ _ _ => rfl, fun i b _ h1 h2 => ⟨b, h1, h2⟩, fun i L h1 h2 => by omega⟩

theorem WRel.drew {P : Program} {β : Ren} {m : Mem} {w : World} (h : WRel P β m w) : WRel P β m w.drew := ⟨h.blk, h.inj, h.dom, h.fresh⟩

/-- One step behind another. -/
theorem Post.trans {P : Program} {β β1 β2 : Ren} {m m1 m2 : Mem} {w w1 w2 : World} (h : Post P β m w m1 β1 w1) (k : Post P β1 m1 w1 m2 β2 w2)
    (_hf : Free β m m2) : Post P β m w m2 β2 w2 := by
  have hle := h.le
  have kle := k.le
  refine ⟨k.rel, ?_, by omega, ?_, ?_, ?_, ?_⟩
  · refine ⟨k.frame.os.trans h.frame.os, k.frame.tape.trans h.frame.tape, k.frame.output.trans h.frame.output, Nat.le_trans h.frame.size k.frame.size, fun g hg hn => ?_⟩
    rw [k.frame.block g (Nat.lt_of_lt_of_le hg h.frame.size) ?_, h.frame.block g hg hn]
    intro i b L hi ho hL e
    by_cases hi1 : i < m.next
    · obtain ⟨b0, hb0, ho0⟩ := h.own i b hi1 hi ho
      rw [h.out i (.inl hi1)] at hL
      exact hn i b0 L hb0 ho0 hL e
    · by_cases hi2 : i < m1.next
      · rcases h.far i L (by omega) hi2 hL with h3 | ⟨j, bj, Lj, hj, hjo, hjL, hjg⟩
        · omega
        · exact hn j bj Lj hj hjo hjL (hjg.trans e)
      · rw [h.rel.fresh i (by omega)] at hi
        cases hi
  · intro i hi
    rw [k.out i (by omega), h.out i (by omega)]
  · intro i hi hb
    rw [k.low i (by omega) (by rw [h.out i (.inl hi)]; exact hb), h.low i hi hb]
  · intro i b hi hb ho
    obtain ⟨b1, hb1, ho1⟩ := k.own i b (by omega) hb ho
    exact h.own i b1 hi hb1 ho1
  · intro i L h1 h2 hL
    by_cases h3 : i < m1.next
    · rw [k.out i (.inl h3)] at hL
      exact h.far i L h1 h3 hL
    · rcases k.far i L (by omega) h2 hL with h4 | ⟨j, bj, Lj, hj, hjo, hjL, hjg⟩
      · exact .inl (Nat.le_trans h.frame.size h4)
      · by_cases hj1 : j < m.next
        · obtain ⟨b0, hb0, ho0⟩ := h.own j bj hj1 hj hjo
          exact .inr ⟨j, b0, Lj, hb0, ho0, by rw [← h.out j (.inl hj1)]; exact hjL, hjg⟩
        · by_cases hj2 : j < m1.next
          · rw [← hjg]; exact h.far j Lj (by omega) hj2 hjL
          · rw [h.rel.fresh j (by omega)] at hj; cases hj

/-- What the machine's temporaries hold of what is known. -/
structure ERel (β : Ren) (N : Nat) (env : Env) (a : Act) : Prop where
  size : a.tmps.size = N
  has : ∀ t x, env t = some x → ∃ v, a.tmps[t]? = some v ∧ VRel β x v

theorem ERel.mono {β β' : Ren} (hb : Le β β') {N : Nat} {env : Env} {a : Act} (h : ERel β N env a) : ERel β' N env a :=
  ⟨h.size, fun t x e => let ⟨v, hv, r⟩ := h.has t x e; ⟨v, hv, r.mono hb⟩⟩

theorem ERel.put {β : Ren} {N : Nat} {env : Env} {a : Act} (h : ERel β N env a) {d : Option Nat} (hd : ∀ t, d = some t → t < N) {x v : Value} (r : VRel β x v) :
    ERel β N (env.put d x) (a.put d v) := by
  cases d with
  | none => exact h
  | some d =>
    refine ⟨by simp [Act.put, h.size], fun t y e => ?_⟩
    simp only [Env.put] at e
    by_cases ht : t = d
    · subst ht
      simp only [if_true, Option.some.injEq] at e
      subst e
      refine ⟨v, ?_, r⟩
      have := hd t rfl
      simp [Act.put, h.size, this]
    · rw [if_neg ht] at e
      obtain ⟨u, hu, ru⟩ := h.has t y e
      refine ⟨u, ?_, ru⟩
      simp only [Act.put]
      rw [Array.getElem?_setIfInBounds_ne (fun e => ht e.symm)]
      exact hu

theorem const_cell {β : Ren} {v : Value} (h : constCell v = true) : VRel β v v := by
  unfold constCell at h
  split at h <;> first | constructor | exact absurd h (by simp)

theorem constCell_ok {v : Value} (h : constCell v = true) : okCell v = true := by
  unfold constCell at h
  split at h <;> first | rfl | exact absurd h (by simp)

theorem const_rel {β : Ren} {v : Value} (h : constOk v = true) : VRel β v v := by
  unfold constOk at h
  split at h
  · rename_i cs
    rw [List.all_eq_true] at h
    have hm : ∀ (i : Nat) (x : Value), cs[i]? = some x → constCell x = true := fun i x hx => h x (by simpa using Array.mem_of_getElem? hx)
    exact .agg rfl (fun i x x' hx hx' => by rw [hx] at hx'; obtain rfl := Option.some.inj hx'; exact const_cell (hm i x hx)) (fun i x hx => constCell_ok (hm i x hx))
  · rename_i cs
    rw [List.all_eq_true] at h
    have hm : ∀ (i : Nat) (x : Value), cs[i]? = some x → constCell x = true := fun i x hx => h x (by simpa using Array.mem_of_getElem? hx)
    exact .tuple rfl (fun i x x' hx hx' => by rw [hx] at hx'; obtain rfl := Option.some.inj hx'; exact const_cell (hm i x hx))
  · exact const_cell h

theorem ev1_rel {β : Ren} {N : Nat} {env : Env} {a : Act} (h : ERel β N env a) {x : Operand} {v : Value} (e : ev1 env x = some v) : VRel β v (a.eval x) := by
  cases x with
  | tmp t =>
    obtain ⟨u, hu, r⟩ := h.has t v e
    have : a.eval (.tmp t) = u := by simp [Act.eval, Array.getD_eq_getD_getElem?, hu]
    rw [this]; exact r
  | const c =>
    simp only [ev1] at e
    split at e
    · obtain rfl := Option.some.inj e
      rename_i hc
      exact const_rel hc
    · cases e
  | global g => cases e
  | func f =>
    obtain rfl := Option.some.inj e
    exact .func rfl (fun i x x' hx => by simp at hx)

/-- Values, one by one. -/
def LRel (β : Ren) : List Value → List Value → Prop
  | [], [] => True
  | x :: r, v :: s => VRel β x v ∧ LRel β r s
  | _, _ => False

theorem LRel.get {β : Ren} : ∀ {xs vs : List Value}, LRel β xs vs → xs.length = vs.length ∧ ∀ (i : Nat) (x v : Value), xs[i]? = some x → vs[i]? = some v → VRel β x v
  | [], [], _ => ⟨rfl, fun i x v h => by simp at h⟩
  | x :: r, v :: s, h => by
    obtain ⟨h1, h2⟩ := LRel.get h.2
    refine ⟨by simp [h1], fun i y u hy hu => ?_⟩
    cases i with
    | zero => simp at hy hu; subst hy hu; exact h.1
    | succ i => simp at hy hu; exact h2 i y u hy hu
  | [], _ :: _, h => h.elim
  | _ :: _, [], h => h.elim

theorem LRel.append {β : Ren} : ∀ {xs vs ys us : List Value}, LRel β xs vs → LRel β ys us → LRel β (xs ++ ys) (vs ++ us)
  | [], [], _, _, _, h => h
  | _ :: _, _ :: _, _, _, h, k => ⟨h.1, LRel.append h.2 k⟩
  | [], _ :: _, _, _, h, _ => h.elim
  | _ :: _, [], _, _, h, _ => h.elim

theorem LRel.of {β : Ren} : ∀ {xs vs : List Value}, xs.length = vs.length → (∀ (i : Nat) (x v : Value), xs[i]? = some x → vs[i]? = some v → VRel β x v) → LRel β xs vs
  | [], [], _, _ => trivial
  | x :: r, v :: s, hl, h => ⟨h 0 x v rfl rfl, LRel.of (by simpa using hl) fun i y u hy hu => h (i + 1) y u (by simpa using hy) (by simpa using hu)⟩
  | [], _ :: _, hl, _ => by simp at hl
  | _ :: _, [], hl, _ => by simp at hl

theorem evs_rel {β : Ren} {N : Nat} {env : Env} {a : Act} (h : ERel β N env a) : ∀ {xs : List Operand} {vs : List Value}, evs env xs = some vs → LRel β vs (xs.map a.eval)
  | [], vs, e => by obtain rfl := Option.some.inj e; trivial
  | x :: r, vs, e => by
    simp only [evs] at e
    split at e
    · cases e
    · rename_i v hv
      split at e
      · cases e
      · rename_i us hus
        obtain rfl := Option.some.inj e
        exact ⟨ev1_rel h hv, evs_rel h hus⟩

/-- Parts, with their places. -/
def PRel (β : Ren) : List (Nat × Value) → List (Nat × Value) → Prop
  | [], [] => True
  | x :: r, v :: s => x.1 = v.1 ∧ VRel β x.2 v.2 ∧ okVal x.2 = true ∧ PRel β r s
  | _, _ => False

theorem evParts_rel {β : Ren} {N : Nat} {env : Env} {a : Act} (h : ERel β N env a) : ∀ {xs : List (Nat × Operand)} {vs : List (Nat × Value)}, evParts env xs = some vs → PRel β vs (xs.map fun (i, x) => (i, a.eval x))
  | [], vs, e => by obtain rfl := Option.some.inj e; trivial
  | (i, x) :: r, vs, e => by
    simp only [evParts] at e
    split at e
    · cases e
    · rename_i v hv
      split at e
      · rename_i hk
        split at e
        · cases e
        · rename_i us hus
          obtain rfl := Option.some.inj e
          exact ⟨rfl, ev1_rel h hv, hk, evParts_rel h hus⟩
      · cases e
end Go.AM
