/- ChairOnce comes to true on all arguments: the law's own arguments. -/
import Derived.Test.YtgecmpgpinihhaaAmC16o
set_option linter.unusedSimpArgs false
set_option linter.unusedVariables false
set_option maxRecDepth 100000
set_option maxHeartbeats 4000000
set_option maxRecDepth 100000
set_option maxHeartbeats 4000000
namespace Go.AM
open Go
/-- An array's data: its parts one behind the other. -/
theorem lies_array {H : Type} {P : Program} {m : Mem} {k c : Nat} {t e : TypeId} {d : DataW H} {v : Value} (ht : P.underlying t = some (.array c e)) (hd : IsD P (k + 1) t d) (h : Lies P m t d v) : ∃ (ps : List (DataW H)) (cells : List Value), ps.length = c ∧ v = .agg cells.toArray ∧ RowsOf (ElD P m k e) ps cells := by
  obtain ⟨q, rfl, hm⟩ := h
  simp only [IsD, ht] at hd
  obtain ⟨ps, rfl, hl, hd⟩ := hd
  simp only [amOne, ht] at hm ⊢
  exact ⟨ps, _, hl, by simp only [valOf, ht], rowsOf_many hd hm⟩
theorem rows_map {α β : Type} {R : α → List Value → Prop} {Q : β → List Value → Prop} {ok : β → Prop} (one : ∀ a c, R a c → ∃ b, Q b c ∧ ok b) : ∀ {es : List α} {cells : List Value}, RowsOf R es cells → ∃ l : List β, l.length = es.length ∧ RowsOf Q l cells ∧ ∀ b ∈ l, ok b
  | [], cells, h => ⟨[], rfl, h, by simp⟩
  | d :: r, _, ⟨c1, c2, rfl, hx, hr⟩ => by
    obtain ⟨l, h1, h2, h3⟩ := rows_map one hr
    obtain ⟨x, h4, h5⟩ := one d _ hx
    refine ⟨x :: l, by simp [h1], ⟨c1, c2, rfl, h4, h2⟩, fun y hy => ?_⟩
    rcases List.mem_cons.1 hy with rfl | hy
    · exact h5
    · exact h3 y hy
end Go.AM
namespace Go.Proofs.Ytgecmpgpinihhaa
open Go Go.AM Go.AM.Crc Go.AM.Wire
theorem chairOnce_true {H : Type} {m : Mem} {xs : List Value} {ds : List (DataW H)} (hd : IsDs Try.prog 8 [22, 55, 56] ds) (hl : LieAll Try.prog m [22, 55, 56] ds xs) : Ret Try.prog 4 xs m fun v _ => v = .bool true := by
  match ds, hd with
  | [d0, d1, d2], hd =>
    obtain ⟨i0, i1, i2, _⟩ := hd
    obtain ⟨v0, _, rfl, l0, v1, _, rfl, l1, v2, _, rfl, l2, rfl⟩ := hl
    obtain ⟨x, rfl, _⟩ := lies_int (k := 7) Try.underlying22 i0 l0
    obtain ⟨ps, ec, h6, rfl, hE⟩ := lies_array (k := 7) Try.underlying55 i1 l1
    obtain ⟨E, hE1, hE2, _⟩ := rows_map (Q := smR m) (ok := fun _ => True) (fun d c hc => by
      obtain ⟨S, va, rfl, hs⟩ := small_part (k := 2) hc.1 hc.2
      exact ⟨S, ⟨va, rfl, hs⟩, trivial⟩) hE
    have one : ∀ d : DataW H, IsD Try.prog 7 64 d → ∀ c, LiesC Try.prog m 64 d c → ∃ x : Mv, mvR x c ∧ ((0 ≤ x.n ∧ x.n < 256) ∧ 0 ≤ x.l ∧ x.l < 256) := by
      intro d hi c hc
      obtain ⟨ps, rfl, hp⟩ := liesC_struct (k := 6) Try.underlying64 hi hc
      obtain ⟨p0, pr, c1, c2, rfl, rfl, i1, l1, hp⟩ := partsC_cons hp
      obtain ⟨p1, pr, c3, c4, rfl, rfl, i2, l2, hp⟩ := partsC_cons hp
      obtain ⟨p2, pr, c5, c6, rfl, rfl, i3, l3, hp⟩ := partsC_cons hp
      obtain ⟨p3, pr, c7, c8, rfl, rfl, i4, l4, hp⟩ := partsC_cons hp
      obtain ⟨rfl, rfl⟩ := partsC_nil hp
      obtain ⟨x0, rfl, w0⟩ := liesC_int (k := 5) Try.underlying5 i1 l1
      obtain ⟨x1, rfl, w1⟩ := liesC_int (k := 5) Try.underlying5 i2 l2
      obtain ⟨x2, rfl⟩ := liesC_bool (k := 5) Try.underlying4 i3 l3
      obtain ⟨x3, rfl⟩ := liesC_bool (k := 5) Try.underlying4 i4 l4
      exact ⟨⟨x0, x1, x2, x3⟩, rfl, wf_u8 w0, wf_u8 w1⟩
    obtain ⟨es, cells, hw, hR, hF⟩ := lies_row (k := 7) (sz := 4) Try.underlying56 (by kernel_rfl) (fun d hi cs hc => by
      obtain ⟨x, hx, _⟩ := one d hi cs hc
      exact mvR_size x cs hx) i2 l2
    obtain ⟨l, h1, h2, h3⟩ := rows_map (Q := mvR) (ok := fun x => (0 ≤ x.n ∧ x.n < 256) ∧ 0 ≤ x.l ∧ x.l < 256) (fun d c hc => one d hc.1 c hc.2) hR
    exact once_ret (by rw [h1]; exact hF) h2 h3 hE2 (by rw [hE1]; exact h6)
end Go.Proofs.Ytgecmpgpinihhaa
