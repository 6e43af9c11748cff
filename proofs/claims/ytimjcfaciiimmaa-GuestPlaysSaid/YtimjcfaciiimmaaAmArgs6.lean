/- Data of arguments as frozen rows. -/
import Derived.Test.YtimjcfaciiimmaaAmArgs5
import Derived.Test.YtimjcfaciiimmaaAmDat2
set_option linter.unusedSimpArgs false
set_option linter.unusedVariables false
namespace Go.AM
open Go
section
variable {H : Type} {P : Program} {m : Mem}

/-- An element's data, and where its cells lie. -/
def ElD (P : Program) (m : Mem) (k : Nat) (e : TypeId) (d : DataW H) (c : List Value) : Prop := IsD P k e d ∧ LiesC P m e d c

theorem rowsOf_many {k : Nat} {e : TypeId} : ∀ {es : List (DataW H)} {q : Nat}, (∀ d ∈ es, IsD P k e d) → Holds m q (amMany P e es q).2 → RowsOf (ElD P m k e) es (amMany P e es q).1
  | [], q, _, _ => rfl
  | x :: r, q, hd, hm => by
    simp only [amMany] at hm ⊢
    exact ⟨_, _, rfl, ⟨hd x (by simp), q, rfl, hm.left⟩, rowsOf_many (fun d hh => hd d (by simp [hh])) hm.right⟩

/-- A slice's data: a frozen row of its elements. -/
theorem liesC_row {k sz : Nat} {t e : TypeId} {d : DataW H} {cs : List Value} (ht : P.underlying t = some (.slice e)) (he : esz P e = sz) (hs : ∀ d : DataW H, IsD P k e d → ∀ cs, LiesC P m e d cs → cs.length = sz) (hd : IsD P (k + 1) t d) (h : LiesC P m t d cs) :
    ∃ (v : Value) (es : List (DataW H)) (cells : List Value), cs = [v] ∧ es.length * P.bytesOf e ≤ reachBytes ∧ RowsOf (ElD P m k e) es cells ∧ FRow m v sz es.length cells := by
  obtain ⟨q, rfl, hm⟩ := h
  simp only [IsD, ht] at hd
  rcases hd with rfl | ⟨es, sp, rfl, hw, hes⟩
  · exact ⟨_, [], [], rfl, by simp, rfl, FRow.nil⟩
  · simp only [amOne, ht, he] at hm ⊢
    have hr : Holds m (q + 1) (amMany P e es (q + 1)).2 := by
      have := Holds.right (a := [if es.isEmpty then none else some (Blk.cells (amMany P e es (q + 1)).1 e false)]) (b := (amMany P e es (q + 1)).2) hm
      simpa using this
    have R := rowsOf_many hes hr
    have L := R.length (sz := sz) (fun a c h => hs a h.1 c h.2)
    refine ⟨_, es, _, rfl, hw, R, L, ?_⟩
    cases es with
    | nil => exact .inl ⟨rfl, .inr ⟨q, 0, rfl⟩⟩
    | cons x r =>
      right
      have h0 := hm.2 0 (by simp)
      simp only [Nat.add_zero, List.isEmpty_cons, Bool.false_eq_true, if_false, List.getElem?_cons_zero, Option.join_some] at h0
      refine ⟨q, 0, _, e, rfl, by have := hm.1; simp only [List.length_cons] at this; omega, h0, by omega, ?_⟩
      rw [List.drop_zero, ← L, List.take_length]
theorem lies_row {k sz : Nat} {t e : TypeId} {d : DataW H} {v : Value} (ht : P.underlying t = some (.slice e)) (he : esz P e = sz) (hs : ∀ d : DataW H, IsD P k e d → ∀ cs, LiesC P m e d cs → cs.length = sz) (hd : IsD P (k + 1) t d) (h : Lies P m t d v) :
    ∃ (es : List (DataW H)) (cells : List Value), es.length * P.bytesOf e ≤ reachBytes ∧ RowsOf (ElD P m k e) es cells ∧ FRow m v sz es.length cells := by
  obtain ⟨cs, rfl, hc⟩ := h.cells
  obtain ⟨w, es, cells, rfl, h1, h2, h3⟩ := liesC_row ht he hs hd hc
  refine ⟨es, cells, h1, h2, ?_⟩
  simp only [valOf, ht, List.headD_cons]
  exact h3
theorem wf_u8 {n : Int} (h : (Lit.int .u8 n).wf = true) : 0 ≤ n ∧ n < 256 := by
  simp [Lit.wf, IntKind.min, IntKind.max, IntKind.signed, IntKind.bits] at h
  omega
theorem wf_u32 {n : Int} (h : (Lit.int .u32 n).wf = true) : 0 ≤ n ∧ n < 4294967296 := by
  simp [Lit.wf, IntKind.min, IntKind.max, IntKind.signed, IntKind.bits] at h
  omega
theorem wf_u64 {n : Int} (h : (Lit.int .u64 n).wf = true) : 0 ≤ n ∧ n < 18446744073709551616 := by
  simp [Lit.wf, IntKind.min, IntKind.max, IntKind.signed, IntKind.bits] at h
  omega
theorem wf_i64 {n : Int} (h : (Lit.int .i64 n).wf = true) : -2 ^ 63 ≤ n ∧ n < 2 ^ 63 := by
  simp [Lit.wf, IntKind.min, IntKind.max, IntKind.signed, IntKind.bits] at h
  omega
theorem wf_i16 {n : Int} (h : (Lit.int .i16 n).wf = true) : -32768 ≤ n ∧ n < 32768 := by
  simp [Lit.wf, IntKind.min, IntKind.max, IntKind.signed, IntKind.bits] at h
  omega

/-- Whole numbers in a row. -/
theorem liesC_nums {k : Nat} {t e : TypeId} {ik : IntKind} {d : DataW H} {cs : List Value} (ht : P.underlying t = some (.slice e)) (he : P.underlying e = some (.int ik)) (hs : esz P e = 1) (hd : IsD P (k + 2) t d) (h : LiesC P m t d cs) :
    ∃ (v : Value) (zs : List Int), cs = [v] ∧ (∀ z ∈ zs, (Lit.int ik z).wf = true) ∧ zs.length * P.bytesOf e ≤ reachBytes ∧ FRow m v 1 zs.length (zs.map (.int ik)) := by
  have one : ∀ (d : DataW H), IsD P (k + 1) e d → ∀ cs, LiesC P m e d cs → ∃ z, d = .lit (.int ik z) ∧ (Lit.int ik z).wf = true ∧ cs = [.int ik z] := by
    intro d hd cs hc
    obtain ⟨q, rfl, _⟩ := hc
    simp only [IsD, he] at hd
    obtain ⟨z, rfl, hz⟩ := hd
    exact ⟨z, rfl, hz, rfl⟩
  obtain ⟨v, es, cells, rfl, h1, h2, h3⟩ := liesC_row ht hs (fun d hd cs hc => by
    obtain ⟨z, _, _, rfl⟩ := one d hd cs hc
    rfl) hd h
  have : ∀ {es : List (DataW H)} {cells : List Value}, RowsOf (ElD P m (k + 1) e) es cells → ∃ zs : List Int, zs.length = es.length ∧ (∀ z ∈ zs, (Lit.int ik z).wf = true) ∧ cells = zs.map (.int ik) := by
    intro es
    induction es with
    | nil => intro cells h; rw [RowsOf] at h; exact ⟨[], rfl, by simp, h⟩
    | cons x r ih =>
      rintro cells ⟨c1, c2, rfl, hx, hr⟩
      obtain ⟨zs, a1, a2, rfl⟩ := ih hr
      obtain ⟨z, _, hz, rfl⟩ := one x hx.1 _ hx.2
      refine ⟨z :: zs, by simp [a1], fun y hy => ?_, rfl⟩
      rcases List.mem_cons.1 hy with rfl | hy
      · exact hz
      · exact a2 y hy
  obtain ⟨zs, a1, a2, rfl⟩ := this h2
  exact ⟨v, zs, rfl, a2, by rw [a1]; exact h1, by rw [a1]; exact h3⟩
theorem lies_nums {k : Nat} {t e : TypeId} {ik : IntKind} {d : DataW H} {v : Value} (ht : P.underlying t = some (.slice e)) (he : P.underlying e = some (.int ik)) (hs : esz P e = 1) (hd : IsD P (k + 2) t d) (h : Lies P m t d v) :
    ∃ zs : List Int, (∀ z ∈ zs, (Lit.int ik z).wf = true) ∧ zs.length * P.bytesOf e ≤ reachBytes ∧ FRow m v 1 zs.length (zs.map (.int ik)) := by
  obtain ⟨cs, rfl, hc⟩ := h.cells
  obtain ⟨w, zs, rfl, h1, h2, h3⟩ := liesC_nums ht he hs hd hc
  refine ⟨zs, h1, h2, ?_⟩
  simp only [valOf, ht, List.headD_cons]
  exact h3
end
end Go.AM
