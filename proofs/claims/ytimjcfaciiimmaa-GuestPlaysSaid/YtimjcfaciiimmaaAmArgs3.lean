/- What the data of a law's arguments are, by their types, and where they lie in the abstract machine's memory. -/
import Derived.Test.YtimjcfaciiimmaaAmBridge
import Derived.Test.YtimjcfaciiimmaaAmShown
set_option linter.unusedSimpArgs false
set_option linter.unusedVariables false
namespace Go.AM
open Go Go.RowKit

section
variable {H : Type}

/-- Data of a type. -/
def IsD (P : Program) : Nat → TypeId → DataW H → Prop
  | 0, _, _ => False
  | k + 1, t, d => match P.underlying t with
    | some .bool => ∃ b, d = .lit (.bool b)
    | some (.int ik) => ∃ n, d = .lit (.int ik n) ∧ (Lit.int ik n).wf = true
    | some (.float fk) => ∃ b, d = .lit (.float fk b) ∧ (Lit.float fk b).wf = true
    | some .string => ∃ s : List UInt8, d = .lit (.string s) ∧ s.length ≤ reachBytes
    | some (.slice e) => d = .nil ∨ ∃ es sp, d = .slice es sp ∧ es.length * P.bytesOf e ≤ reachBytes ∧ ∀ x ∈ es, IsD P k e x
    | some (.struct fs) => ∃ ps, d = .agg ps ∧ ps.length = fs.size ∧ ∀ (i : Nat) (f : Field) (p : DataW H), fs[i]? = some f → ps[i]? = some p → IsD P k f.type p
    | some (.array c e) => ∃ ps, d = .agg ps ∧ ps.length = c ∧ ∀ p ∈ ps, IsD P k e p
    | _ => True

variable {enc : TypeId × Value → H} {P : Program} {W : World}

theorem weights_all {e : TypeId} : ∀ {ds : List (DataW H)} {d : DataW H}, d ∈ ds → ∀ n ∈ d.weights P e, n ∈ DataW.weightsAll P e ds
  | x :: r, d, hd, n, hn => by
    simp only [DataW.weightsAll, List.mem_append]
    rcases List.mem_cons.1 hd with rfl | hd
    · exact .inl hn
    · exact .inr (weights_all hd n hn)

theorem isD_of : ∀ (n k : Nat) (t : TypeId) (cs : List Value) (x : DataW H × List MemPlace), DataW.trod enc P W 0 (fun _ => true) true n t cs = some x → flatB P k t = true → (∀ m ∈ x.1.weights P t, m ≤ reachBytes) → IsD P k t x.1
  | 0, k, t, cs, x, h, _, _ => by simp [DataW.trod] at h
  | n + 1, k, t, cs, x, h, hf, hw => by
    have ih := fun k t cs x => isD_of n k t cs x
    cases k with
    | zero => cases hf
    | succ k =>
      simp only [flatB] at hf
      simp only [IsD]
      split at hf
      · rename_i ht
        obtain ⟨b, rfl, rfl⟩ := DataW.trod_bool ht h
        rw [ht]
        exact ⟨b, rfl⟩
      · rename_i ik ht
        obtain ⟨b, rfl, rfl, hb⟩ := DataW.trod_int ht h
        rw [ht]
        exact ⟨b, rfl, hb⟩
      · rename_i fk ht
        obtain ⟨b, rfl, rfl, hb⟩ := trod_float ht h
        rw [ht]
        exact ⟨b, rfl, hb⟩
      · rename_i ht
        obtain ⟨s, rfl, rfl, _⟩ := DataW.trod_string ht h
        rw [ht]
        exact ⟨_, rfl, hw _ (by simp [DataW.weights])⟩
      · rename_i e ht
        rw [ht]
        simp only [Bool.and_eq_true, decide_eq_true_eq] at hf
        rcases DataW.trod_slice ht h with ⟨rfl, rfl⟩ | ⟨a, len, cap, elems, rest, n', hn, rfl, rfl, _, hl, hm, hlen, hel, hsp, _⟩
        · exact .inl rfl
        · obtain rfl : n' = n := by omega
          refine .inr ⟨_, _, rfl, ?_, ?_⟩
          · have := hw (((elems.map (·.1)).length + (rest.map (·.1)).length) * P.bytesOf e) (by simp [DataW.weights, ht])
            refine Nat.le_trans (Nat.mul_le_mul_right _ ?_) this
            omega
          · intro d hd
            obtain ⟨y, hy, rfl⟩ := List.mem_map.1 hd
            obtain ⟨j, hj, rfl⟩ := List.mem_iff_getElem.1 hy
            have := hel j (by omega)
            rw [List.getElem?_eq_getElem hj, Option.bind_eq_some_iff] at this
            obtain ⟨css, _, h2⟩ := this
            refine ih k e css _ h2 hf.1 fun m hm => hw m ?_
            simp only [DataW.weights, ht, List.mem_cons, List.mem_append]
            exact .inr (.inl (weights_all hd m hm))
      · rename_i fs ht
        rw [ht]
        simp only [Bool.and_eq_true, List.all_eq_true] at hf
        obtain ⟨xs, n', hn, rfl, hl, hx, hg⟩ := DataW.trod_struct ht h
        obtain rfl : n' = n := by omega
        refine ⟨_, rfl, by simpa using hx, fun i f p hi hp => ?_⟩
        simp only [List.getElem?_map, Option.map_eq_some_iff] at hp
        obtain ⟨y, hy, rfl⟩ := hp
        have := hg i f hi
        rw [hy] at this
        refine ih k f.type _ _ this (hf.1 f (by
          rw [Array.mem_toList_iff]
          exact Array.mem_of_getElem? hi)) fun m hm => hw m ?_
        simp only [DataW.weights, ht]
        exact DataW.weights_mem_each (j := i) (by simp [hi]) (by simp [hy]) m hm
      · rename_i c e ht
        rw [ht]
        simp only [Bool.and_eq_true, decide_eq_true_eq] at hf
        obtain ⟨xs, n', hn, rfl, hl, hx, hg⟩ := trod_array ht h
        obtain rfl : n' = n := by omega
        refine ⟨_, rfl, by simpa using hx, fun p hp => ?_⟩
        obtain ⟨y, hy, rfl⟩ := List.mem_map.1 hp
        obtain ⟨j, hj, rfl⟩ := List.mem_iff_getElem.1 hy
        have := hg j (by omega)
        rw [List.getElem?_eq_getElem hj] at this
        refine ih k e _ _ this hf.1 fun m hm => hw m ?_
        simp only [DataW.weights, ht]
        exact weights_all hp m hm
      · cases hf

/-- The data of all arguments. -/
def IsDs (P : Program) (k : Nat) : List TypeId → List (DataW H) → Prop
  | [], [] => True
  | t :: ts, d :: ds => IsD P k t d ∧ IsDs P k ts ds
  | _, _ => False

theorem isDs_of {k : Nat} : ∀ {ts : List TypeId} {vs : List Value} {ds : List (DataW H)} {p : List MemPlace}, DataW.TrodAll enc P W 0 (fun _ => true) true ts vs ds p → ts.all (flatB P k) = true →
    (∀ n ∈ DataW.weightsEach P ts ds, n ≤ reachBytes) → IsDs P k ts ds
  | [], [], [], p, _, _, _ => trivial
  | t :: ts, v :: vs, d :: ds, p, h, hf, hw => by
    obtain ⟨p1, p2, ⟨fuel, h1⟩, h2, _⟩ := h
    simp only [List.all_cons, Bool.and_eq_true] at hf
    exact ⟨isD_of fuel k t _ (d, p1) h1 hf.1 fun n hn => hw n (by simp only [DataW.weightsEach, List.mem_append]; exact .inl hn),
      isDs_of h2 hf.2 fun n hn => hw n (by simp only [DataW.weightsEach, List.mem_append]; exact .inr hn)⟩
  | [], _ :: _, _, _, h, _, _ => by cases h
  | [], [], _ :: _, _, h, _, _ => by cases h
  | _ :: _, [], _, _, h, _, _ => by cases h
  | _ :: _, _ :: _, [], _, h, _, _ => by cases h

/-- Blocks that lie at q. -/
def Holds (m : Mem) (q : Nat) (bl : List (Option Blk)) : Prop := q + bl.length ≤ m.next ∧ ∀ j, j < bl.length → m.get (q + j) = (bl[j]?).join
theorem Holds.left {m : Mem} {q : Nat} {a b : List (Option Blk)} (h : Holds m q (a ++ b)) : Holds m q a := by
  refine ⟨by have := h.1; rw [List.length_append] at this; omega, fun j hj => ?_⟩
  rw [h.2 j (by rw [List.length_append]; omega), List.getElem?_append_left hj]
theorem Holds.right {m : Mem} {q : Nat} {a b : List (Option Blk)} (h : Holds m q (a ++ b)) : Holds m (q + a.length) b := by
  refine ⟨by have := h.1; rw [List.length_append] at this; omega, fun j hj => ?_⟩
  have := h.2 (a.length + j) (by rw [List.length_append]; omega)
  rw [Nat.add_assoc, this, List.getElem?_append_right (by omega)]
  congr 2
  omega

/-- A value that lies in the memory as its data are. -/
def Lies (P : Program) (m : Mem) (t : TypeId) (d : DataW H) (v : Value) : Prop := ∃ q, v = valOf P t (amOne P t d q).1 ∧ Holds m q (amOne P t d q).2

def LieAll (P : Program) (m : Mem) : List TypeId → List (DataW H) → List Value → Prop
  | [], [], vs => vs = []
  | t :: ts, d :: ds, vs => ∃ v vr, vs = v :: vr ∧ Lies P m t d v ∧ LieAll P m ts ds vr
  | _, _, _ => False

theorem lieAll_of {k : Nat} {m : Mem} : ∀ {ts : List TypeId} {ds : List (DataW H)} {q : Nat}, IsDs P k ts ds → Holds m q (amArgs P ts ds q).2 → LieAll P m ts ds (amArgs P ts ds q).1
  | [], [], q, _, _ => rfl
  | t :: ts, d :: ds, q, h, hm => by
    simp only [amArgs] at hm ⊢
    exact ⟨_, _, rfl, ⟨q, rfl, hm.left⟩, lieAll_of h.2 hm.right⟩
  | [], _ :: _, _, h, _ => h.elim
  | _ :: _, [], _, h, _ => h.elim

theorem memOf_holds (bl : List (Option Blk)) : Holds (memOf bl) 0 bl := ⟨by simp [memOf], fun j _ => by simp [memOf]⟩

/-- Whole numbers in a row. -/
theorem amMany_ints {e : TypeId} {ik : IntKind} (zs : List Int) (n : Nat) : amMany P e (zs.map fun z => (.lit (.int ik z) : DataW H)) n = (zs.map (.int ik), []) := by
  induction zs with
  | nil => rfl
  | cons z r ih => simp only [List.map_cons, amMany, amOne, List.length_nil, Nat.add_zero, ih]; rfl

theorem lies_ints {k : Nat} {m : Mem} {t e : TypeId} {ik : IntKind} {d : DataW H} {v : Value} (ht : P.underlying t = some (.slice e)) (he : P.underlying e = some (.int ik)) (hs : esz P e = 1) (hd : IsD P (k + 2) t d) (h : Lies P m t d v) :
    ∃ zs : List Int, (∀ z ∈ zs, (Lit.int ik z).wf = true) ∧ zs.length * P.bytesOf e ≤ reachBytes ∧ Shows m v (zs.map (.int ik)) ∧ Under m.next v := by
  obtain ⟨q, rfl, hm⟩ := h
  simp only [IsD, ht, he] at hd
  have hval : ∀ x : Value, valOf P t [x] = x := fun x => by simp only [valOf, ht, List.headD_cons]
  rcases hd with rfl | ⟨es, sp, rfl, hw, hes⟩
  · refine ⟨[], by simp, by simp, ?_, ?_⟩
    · simp only [amOne, hval]
      exact Shows.nil m
    · simp only [amOne, hval]
      intro i off sp n z he
      simp at he
  · have : ∃ zs : List Int, es = zs.map (fun z => (.lit (.int ik z) : DataW H)) ∧ ∀ z ∈ zs, (Lit.int ik z).wf = true := by
      clear hw hm
      induction es with
      | nil => exact ⟨[], rfl, by simp⟩
      | cons x r ih =>
        obtain ⟨zs, h1, h2⟩ := ih fun y hy => hes y (by simp [hy])
        obtain ⟨n, rfl, hn⟩ := hes x (by simp)
        exact ⟨n :: zs, by rw [h1]; rfl, fun z hz => by
          rcases List.mem_cons.1 hz with rfl | hz
          · exact hn
          · exact h2 z hz⟩
    obtain ⟨zs, rfl, hz⟩ := this
    rw [List.length_map] at hw
    refine ⟨zs, hz, hw, ?_, ?_⟩
    · simp only [amOne, ht, hval, hs, amMany_ints, List.length_map] at hm ⊢
      cases zs with
      | nil => exact Shows.nil_of m
      | cons z r =>
        have := hm.2 0 (by simp)
        simp only [Nat.add_zero, List.map_cons, List.isEmpty_cons, Bool.false_eq_true, if_false, List.getElem?_cons_zero, Option.join_some] at this
        have h2 := Shows.whole (cs := (z :: r).map (Value.int ik)) this
        simp only [List.length_map] at h2
        exact h2
    · simp only [amOne, ht, hval, hs, amMany_ints, List.length_map] at hm ⊢
      intro i off sp n z he
      simp only [Value.slice.injEq, Option.some.injEq, Addr.mk.injEq] at he
      have := hm.1
      simp only [List.length_cons] at this
      omega

theorem lies_int {k : Nat} {m : Mem} {t : TypeId} {ik : IntKind} {d : DataW H} {v : Value} (ht : P.underlying t = some (.int ik)) (hd : IsD P (k + 1) t d) (h : Lies P m t d v) : ∃ n : Int, v = .int ik n ∧ (Lit.int ik n).wf = true := by
  obtain ⟨q, rfl, hm⟩ := h
  simp only [IsD, ht] at hd
  obtain ⟨n, rfl, hn⟩ := hd
  exact ⟨n, by simp only [amOne, valOf, ht, List.headD_cons], hn⟩

theorem lies_bool {k : Nat} {m : Mem} {t : TypeId} {d : DataW H} {v : Value} (ht : P.underlying t = some .bool) (hd : IsD P (k + 1) t d) (h : Lies P m t d v) : ∃ b : Bool, v = .bool b := by
  obtain ⟨q, rfl, hm⟩ := h
  simp only [IsD, ht] at hd
  obtain ⟨b, rfl⟩ := hd
  exact ⟨b, by simp only [amOne, valOf, ht, List.headD_cons]⟩

theorem lies_string {k : Nat} {m : Mem} {t : TypeId} {d : DataW H} {v : Value} (ht : P.underlying t = some .string) (hd : IsD P (k + 1) t d) (h : Lies P m t d v) : ∃ s : List UInt8, v = .string ⟨s.toArray⟩ ∧ s.length ≤ reachBytes := by
  obtain ⟨q, rfl, hm⟩ := h
  simp only [IsD, ht] at hd
  obtain ⟨s, rfl, hs⟩ := hd
  exact ⟨s, by simp only [amOne, valOf, ht, List.headD_cons], hs⟩

/-- A law whose run on all arguments comes to true: the machine's call. -/
theorem law_calls {ts : List TypeId} {vs : Array Value} {ds : List (DataW H)} {p : List MemPlace} {r : Reach} {base k : Nat} {f : FuncId} (hP : progOkB P = true) (hA : DataW.TrodAll enc P W 0 (fun _ => true) true ts vs.toList ds p)
    (hok : ∀ (j : Nat) t v, ts[j]? = some t → vs[j]? = some v → Value.okWide P W r base t v) (hf : ts.all (flatB P k) = true) (hw : ∀ n ∈ DataW.weightsEach P ts ds, n ≤ reachBytes)
    (hrun : ∀ (m : Mem) (xs : List Value), IsDs P k ts ds → LieAll P m ts ds xs → Ret P f xs m fun v _ => v = .bool true) :
    Calls P f vs W (fun e w' => e = .returned (.bool true) ∧ Below W.heap.size W w') := by
  have hd := isDs_of hA hf hw
  obtain ⟨n, v, m', _, h1, _, rfl⟩ := hrun _ _ hd (lieAll_of hd (memOf_holds _))
  exact am_calls hP hA hok hf h1
end
end Go.AM

namespace Go.AM
open Go
section
variable {H : Type} {P : Program} {m : Mem}

theorem isDs_cons {k : Nat} {t : TypeId} {ts : List TypeId} {ds : List (DataW H)} (h : IsDs P k (t :: ts) ds) : ∃ d dr, ds = d :: dr ∧ IsD P k t d ∧ IsDs P k ts dr := by
  cases ds with
  | nil => exact h.elim
  | cons d dr => exact ⟨d, dr, rfl, h.1, h.2⟩
theorem isDs_nil {k : Nat} {ds : List (DataW H)} (h : IsDs P k [] ds) : ds = [] := by
  cases ds with
  | nil => rfl
  | cons d dr => exact h.elim
theorem wf16 {n : Int} (h : (Lit.int .u16 n).wf = true) : 0 ≤ n ∧ n < 65536 := by
  simp [Lit.wf, IntKind.min, IntKind.max, IntKind.signed, IntKind.bits] at h
  omega

/-- The cells of data, where they lie. -/
def LiesC (P : Program) (m : Mem) (t : TypeId) (d : DataW H) (cs : List Value) : Prop := ∃ q, cs = (amOne P t d q).1 ∧ Holds m q (amOne P t d q).2

theorem Lies.cells {t : TypeId} {d : DataW H} {v : Value} (h : Lies P m t d v) : ∃ cs, v = valOf P t cs ∧ LiesC P m t d cs := by
  obtain ⟨q, h1, h2⟩ := h
  exact ⟨_, h1, q, rfl, h2⟩

/-- The parts, one behind the other. -/
def PartsC (P : Program) (m : Mem) (k : Nat) : List Field → List (DataW H) → List Value → Prop
  | [], [], cs => cs = []
  | f :: fs, p :: ps, cs => ∃ c1 c2, cs = c1 ++ c2 ∧ IsD P k f.type p ∧ LiesC P m f.type p c1 ∧ PartsC P m k fs ps c2
  | _, _, _ => False

theorem partsC_of {k : Nat} : ∀ {fs : List Field} {ps : List (DataW H)} {q : Nat}, ps.length = fs.length → (∀ (i : Nat) (f : Field) (p : DataW H), fs[i]? = some f → ps[i]? = some p → IsD P k f.type p) → Holds m q (amParts P fs ps q).2 → PartsC P m k fs ps (amParts P fs ps q).1
  | [], [], q, _, _, _ => by simp [PartsC, amParts]
  | f :: fs, p :: ps, q, hl, hd, hm => by
    simp only [amParts] at hm ⊢
    refine ⟨_, _, rfl, hd 0 f p rfl rfl, ⟨q, rfl, hm.left⟩, partsC_of (by simpa using hl) (fun i f p h1 h2 => hd (i + 1) f p (by simpa using h1) (by simpa using h2)) hm.right⟩
  | [], _ :: _, q, hl, _, _ => by simp at hl
  | _ :: _, [], q, hl, _, _ => by simp at hl

theorem partsC_cons {k : Nat} {f : Field} {fs : List Field} {ps : List (DataW H)} {cs : List Value} (h : PartsC P m k (f :: fs) ps cs) : ∃ p pr c1 c2, ps = p :: pr ∧ cs = c1 ++ c2 ∧ IsD P k f.type p ∧ LiesC P m f.type p c1 ∧ PartsC P m k fs pr c2 := by
  cases ps with
  | nil => exact h.elim
  | cons p pr =>
    obtain ⟨c1, c2, h1, h2, h3, h4⟩ := h
    exact ⟨p, pr, c1, c2, rfl, h1, h2, h3, h4⟩
theorem partsC_nil {k : Nat} {ps : List (DataW H)} {cs : List Value} (h : PartsC P m k [] ps cs) : ps = [] ∧ cs = [] := by
  cases ps with
  | nil => exact ⟨rfl, h⟩
  | cons p pr => exact h.elim

theorem liesC_struct {k : Nat} {t : TypeId} {fs : Array Field} {d : DataW H} {cs : List Value} (ht : P.underlying t = some (.struct fs)) (hd : IsD P (k + 1) t d) (h : LiesC P m t d cs) : ∃ ps, d = .agg ps ∧ PartsC P m k fs.toList ps cs := by
  obtain ⟨q, rfl, hm⟩ := h
  simp only [IsD, ht] at hd
  obtain ⟨ps, rfl, hl, hd⟩ := hd
  simp only [amOne, ht] at hm ⊢
  exact ⟨ps, rfl, partsC_of (by simpa using hl) (fun i f p h1 h2 => hd i f p (by simpa using h1) h2) hm⟩

theorem lies_struct {k : Nat} {t : TypeId} {fs : Array Field} {d : DataW H} {v : Value} (ht : P.underlying t = some (.struct fs)) (hd : IsD P (k + 1) t d) (h : Lies P m t d v) : ∃ ps cs, d = .agg ps ∧ v = .agg cs.toArray ∧ PartsC P m k fs.toList ps cs := by
  obtain ⟨cs, rfl, hc⟩ := h.cells
  obtain ⟨ps, rfl, hp⟩ := liesC_struct ht hd hc
  exact ⟨ps, cs, rfl, by simp only [valOf, ht], hp⟩

theorem liesC_int {k : Nat} {t : TypeId} {ik : IntKind} {d : DataW H} {cs : List Value} (ht : P.underlying t = some (.int ik)) (hd : IsD P (k + 1) t d) (h : LiesC P m t d cs) : ∃ n : Int, cs = [.int ik n] ∧ (Lit.int ik n).wf = true := by
  obtain ⟨q, rfl, hm⟩ := h
  simp only [IsD, ht] at hd
  obtain ⟨n, rfl, hn⟩ := hd
  exact ⟨n, by simp only [amOne], hn⟩
theorem liesC_bool {k : Nat} {t : TypeId} {d : DataW H} {cs : List Value} (ht : P.underlying t = some .bool) (hd : IsD P (k + 1) t d) (h : LiesC P m t d cs) : ∃ b : Bool, cs = [.bool b] := by
  obtain ⟨q, rfl, hm⟩ := h
  simp only [IsD, ht] at hd
  obtain ⟨b, rfl⟩ := hd
  exact ⟨b, by simp only [amOne]⟩
theorem liesC_string {k : Nat} {t : TypeId} {d : DataW H} {cs : List Value} (ht : P.underlying t = some .string) (hd : IsD P (k + 1) t d) (h : LiesC P m t d cs) : ∃ s : List UInt8, cs = [.string ⟨s.toArray⟩] ∧ s.length ≤ reachBytes := by
  obtain ⟨q, rfl, hm⟩ := h
  simp only [IsD, ht] at hd
  obtain ⟨s, rfl, hs⟩ := hd
  exact ⟨s, by simp only [amOne], hs⟩
theorem liesC_ints {k : Nat} {t e : TypeId} {ik : IntKind} {d : DataW H} {cs : List Value} (ht : P.underlying t = some (.slice e)) (he : P.underlying e = some (.int ik)) (hs : esz P e = 1) (hd : IsD P (k + 2) t d) (h : LiesC P m t d cs) :
    ∃ (v : Value) (zs : List Int), cs = [v] ∧ (∀ z ∈ zs, (Lit.int ik z).wf = true) ∧ zs.length * P.bytesOf e ≤ reachBytes ∧ Shows m v (zs.map (.int ik)) ∧ Under m.next v := by
  obtain ⟨q, hc, hm⟩ := h
  have h1 : ∃ v, cs = [v] := by
    subst hc
    simp only [IsD, ht] at hd
    rcases hd with rfl | ⟨es, sp, rfl, _⟩
    · exact ⟨.slice none 0 0, by simp only [amOne]⟩
    · exact ⟨_, by simp only [amOne, ht]; rfl⟩
  obtain ⟨v, rfl⟩ := h1
  have hv : valOf P t (amOne P t d q).1 = v := by
    rw [← hc]
    simp only [valOf, ht, List.headD_cons]
  obtain ⟨zs, a, b, c, e⟩ := lies_ints ht he hs hd ⟨q, hv.symm, hm⟩
  exact ⟨v, zs, rfl, a, b, c, e⟩
end
end Go.AM
