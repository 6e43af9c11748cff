/- Rows of strings as arguments. -/
import Derived.Test.YtimjcfaciiimmaaAmArgs6
import Derived.Test.YtimjcfaciiimmaaAmWire
set_option linter.unusedSimpArgs false
set_option linter.unusedVariables false
namespace Go.AM
open Go Go.AM.Crc Go.AM.Wire
section
variable {H : Type} {P : Program} {m : Mem}
theorem wf_u16 {n : Int} (h : (Lit.int .u16 n).wf = true) : 0 ≤ n ∧ n < 65536 := by
  simp [Lit.wf, IntKind.min, IntKind.max, IntKind.signed, IntKind.bits] at h
  omega
theorem lies_strs {k : Nat} {t e : TypeId} {d : DataW H} {v : Value} (ht : P.underlying t = some (.slice e)) (he : P.underlying e = some .string) (hs : esz P e = 1) (hd : IsD P (k + 2) t d) (h : Lies P m t d v) :
    ∃ ts : List (List Int), (∀ s ∈ ts, Bytes s ∧ s.length ≤ reachBytes) ∧ ts.length * P.bytesOf e ≤ reachBytes ∧ FRow m v 1 ts.length (ts.map fun s => Value.string (strOf s)) := by
  have one : ∀ (d : DataW H), IsD P (k + 1) e d → ∀ cs, LiesC P m e d cs → ∃ s : List Int, Bytes s ∧ s.length ≤ reachBytes ∧ cs = [.string (strOf s)] := by
    intro d hd cs hc
    obtain ⟨s, rfl, hsl⟩ := liesC_string (k := k) he hd hc
    obtain ⟨bs, hb, hl, e⟩ := str_bytes s
    exact ⟨bs, hb, by omega, by rw [e]⟩
  obtain ⟨es, cells, h1, h2, h3⟩ := lies_row ht hs (fun d hd cs hc => by
    obtain ⟨z, _, _, rfl⟩ := one d hd cs hc
    rfl) hd h
  have : ∀ {es : List (DataW H)} {cells : List Value}, RowsOf (ElD P m (k + 1) e) es cells → ∃ ts : List (List Int), ts.length = es.length ∧ (∀ s ∈ ts, Bytes s ∧ s.length ≤ reachBytes) ∧ cells = ts.map fun s => Value.string (strOf s) := by
    intro es
    induction es with
    | nil => intro cells h; rw [RowsOf] at h; exact ⟨[], rfl, by simp, h⟩
    | cons x r ih =>
      rintro cells ⟨c1, c2, rfl, hx, hr⟩
      obtain ⟨zs, a1, a2, rfl⟩ := ih hr
      obtain ⟨z, hz1, hz2, rfl⟩ := one x hx.1 _ hx.2
      refine ⟨z :: zs, by simp [a1], fun y hy => ?_, rfl⟩
      rcases List.mem_cons.1 hy with rfl | hy
      · exact ⟨hz1, hz2⟩
      · exact a2 y hy
  obtain ⟨zs, a1, a2, rfl⟩ := this h2
  exact ⟨zs, a2, by rw [a1]; exact h1, by rw [a1]; exact h3⟩
end
end Go.AM
