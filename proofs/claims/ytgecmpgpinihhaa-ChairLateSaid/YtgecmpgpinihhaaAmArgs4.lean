/- Data of structs: the cells of their parts. -/
import Derived.Test.YtgecmpgpinihhaaAmArgs3
set_option linter.unusedSimpArgs false
set_option linter.unusedVariables false
namespace Go.AM
open Go
section
variable {H : Type} {P : Program} {m : Mem}

theorem isDs_cons {k : Nat} {t : TypeId} {ts : List TypeId} {ds : List (DataW H)} (h : IsDs P k (t :: ts) ds) : ∃ d dr, ds = d :: dr ∧ IsD P k t d ∧ IsDs P k ts dr := by
  cases ds with
  | nil => exact h.elim
  | cons d dr => exact ⟨d, dr, rfl, h.1, h.2⟩
theorem isDs_nil {k : Nat} {ds : List (DataW H)} (h : IsDs P k [] ds) : ds = [] := by
  cases ds with
  | nil => rfl
  | cons d dr => exact h.elim
theorem wf16 {n : Int} (h : (Lit.int .u16 n).wf = true) : 0 ≤ n ∧ n < 65536 := by
  simp [Lit.wf, IntKind.min, IntKind.max, IntKind.signed, IntKind.bits] at h
  omega

/-- The cells of data, where they lie. -/
def LiesC (P : Program) (m : Mem) (t : TypeId) (d : DataW H) (cs : List Value) : Prop := ∃ q, cs = (amOne P t d q).1 ∧ Holds m q (amOne P t d q).2

theorem Lies.cells {t : TypeId} {d : DataW H} {v : Value} (h : Lies P m t d v) : ∃ cs, v = valOf P t cs ∧ LiesC P m t d cs := by
  obtain ⟨q, h1, h2⟩ := h
  exact ⟨_, h1, q, rfl, h2⟩

/-- The parts, one behind the other. -/
def PartsC (P : Program) (m : Mem) (k : Nat) : List Field → List (DataW H) → List Value → Prop
  | [], [], cs => cs = []
  | f :: fs, p :: ps, cs => ∃ c1 c2, cs = c1 ++ c2 ∧ IsD P k f.type p ∧ LiesC P m f.type p c1 ∧ PartsC P m k fs ps c2
  | _, _, _ => False

theorem partsC_of {k : Nat} : ∀ {fs : List Field} {ps : List (DataW H)} {q : Nat}, ps.length = fs.length → (∀ (i : Nat) (f : Field) (p : DataW H), fs[i]? = some f → ps[i]? = some p → IsD P k f.type p) → Holds m q (amParts P fs ps q).2 → PartsC P m k fs ps (amParts P fs ps q).1
  | [], [], q, _, _, _ => by simp [PartsC, amParts]
  | f :: fs, p :: ps, q, hl, hd, hm => by
    simp only [amParts] at hm ⊢
    refine ⟨_, _, rfl, hd 0 f p rfl rfl, ⟨q, rfl, hm.left⟩, partsC_of (by simpa using hl) (fun i f p h1 h2 => hd (i + 1) f p (by simpa using h1) (by simpa using h2)) hm.right⟩
  | [], _ :: _, q, hl, _, _ => by simp at hl
  | _ :: _, [], q, hl, _, _ => by simp at hl

theorem partsC_cons {k : Nat} {f : Field} {fs : List Field} {ps : List (DataW H)} {cs : List Value} (h : PartsC P m k (f :: fs) ps cs) : ∃ p pr c1 c2, ps = p :: pr ∧ cs = c1 ++ c2 ∧ IsD P k f.type p ∧ LiesC P m f.type p c1 ∧ PartsC P m k fs pr c2 := by
  cases ps with
  | nil => exact h.elim
  | cons p pr =>
    obtain ⟨c1, c2, h1, h2, h3, h4⟩ := h
    exact ⟨p, pr, c1, c2, rfl, h1, h2, h3, h4⟩
theorem partsC_nil {k : Nat} {ps : List (DataW H)} {cs : List Value} (h : PartsC P m k [] ps cs) : ps = [] ∧ cs = [] := by
  cases ps with
  | nil => exact ⟨rfl, h⟩
  | cons p pr => exact h.elim

theorem liesC_struct {k : Nat} {t : TypeId} {fs : Array Field} {d : DataW H} {cs : List Value} (ht : P.underlying t = some (.struct fs)) (hd : IsD P (k + 1) t d) (h : LiesC P m t d cs) : ∃ ps, d = .agg ps ∧ PartsC P m k fs.toList ps cs := by
  obtain ⟨q, rfl, hm⟩ := h
  simp only [IsD, ht] at hd
  obtain ⟨ps, rfl, hl, hd⟩ := hd
  simp only [amOne, ht] at hm ⊢
  exact ⟨ps, rfl, partsC_of (by simpa using hl) (fun i f p h1 h2 => hd i f p (by simpa using h1) h2) hm⟩

theorem lies_struct {k : Nat} {t : TypeId} {fs : Array Field} {d : DataW H} {v : Value} (ht : P.underlying t = some (.struct fs)) (hd : IsD P (k + 1) t d) (h : Lies P m t d v) : ∃ ps cs, d = .agg ps ∧ v = .agg cs.toArray ∧ PartsC P m k fs.toList ps cs := by
  obtain ⟨cs, rfl, hc⟩ := h.cells
  obtain ⟨ps, rfl, hp⟩ := liesC_struct ht hd hc
  exact ⟨ps, cs, rfl, by simp only [valOf, ht], hp⟩

theorem liesC_int {k : Nat} {t : TypeId} {ik : IntKind} {d : DataW H} {cs : List Value} (ht : P.underlying t = some (.int ik)) (hd : IsD P (k + 1) t d) (h : LiesC P m t d cs) : ∃ n : Int, cs = [.int ik n] ∧ (Lit.int ik n).wf = true := by
  obtain ⟨q, rfl, hm⟩ := h
  simp only [IsD, ht] at hd
  obtain ⟨n, rfl, hn⟩ := hd
  exact ⟨n, by simp only [amOne], hn⟩
theorem liesC_bool {k : Nat} {t : TypeId} {d : DataW H} {cs : List Value} (ht : P.underlying t = some .bool) (hd : IsD P (k + 1) t d) (h : LiesC P m t d cs) : ∃ b : Bool, cs = [.bool b] := by
  obtain ⟨q, rfl, hm⟩ := h
  simp only [IsD, ht] at hd
  obtain ⟨b, rfl⟩ := hd
  exact ⟨b, by simp only [amOne]⟩
theorem liesC_string {k : Nat} {t : TypeId} {d : DataW H} {cs : List Value} (ht : P.underlying t = some .string) (hd : IsD P (k + 1) t d) (h : LiesC P m t d cs) : ∃ s : List UInt8, cs = [.string ⟨s.toArray⟩] ∧ s.length ≤ reachBytes := by
  obtain ⟨q, rfl, hm⟩ := h
  simp only [IsD, ht] at hd
  obtain ⟨s, rfl, hs⟩ := hd
  exact ⟨s, by simp only [amOne], hs⟩
theorem liesC_ints {k : Nat} {t e : TypeId} {ik : IntKind} {d : DataW H} {cs : List Value} (ht : P.underlying t = some (.slice e)) (he : P.underlying e = some (.int ik)) (hs : esz P e = 1) (hd : IsD P (k + 2) t d) (h : LiesC P m t d cs) :
    ∃ (v : Value) (zs : List Int), cs = [v] ∧ (∀ z ∈ zs, (Lit.int ik z).wf = true) ∧ zs.length * P.bytesOf e ≤ reachBytes ∧ Shows m v (zs.map (.int ik)) ∧ Under m.next v := by
  obtain ⟨q, hc, hm⟩ := h
  have h1 : ∃ v, cs = [v] := by
    subst hc
    simp only [IsD, ht] at hd
    rcases hd with rfl | ⟨es, sp, rfl, _⟩
    · exact ⟨.slice none 0 0, by simp only [amOne]⟩
    · exact ⟨_, by simp only [amOne, ht]; rfl⟩
  obtain ⟨v, rfl⟩ := h1
  have hv : valOf P t (amOne P t d q).1 = v := by
    rw [← hc]
    simp only [valOf, ht, List.headD_cons]
  obtain ⟨zs, a, b, c, e⟩ := lies_ints ht he hs hd ⟨q, hv.symm, hm⟩
  exact ⟨v, zs, rfl, a, b, c, e⟩
end
end Go.AM
