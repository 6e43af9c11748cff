/- GuestPlays comes to true on all arguments: the law's own arguments. -/
import Derived.Test.YtimjcfaciiimmaaAmC22z
import Derived.Test.YtimjcfaciiimmaaAmArgs6
import Derived.Test.YtimjcfaciiimmaaAmArgs7
set_option linter.unusedSimpArgs false
set_option linter.unusedVariables false
set_option maxRecDepth 100000
set_option maxHeartbeats 4000000
set_option maxRecDepth 100000
set_option maxHeartbeats 4000000
namespace Go.Proofs.Ytimjcfaciiimmaa
open Go Go.AM Go.AM.Crc Go.AM.Wire
theorem guestPlays_true {H : Type} {m : Mem} {xs : List Value} {ds : List (DataW H)} (hd : IsDs Try.prog 8 [5, 69] ds) (hl : LieAll Try.prog m [5, 69] ds xs) : Ret Try.prog 6 xs m fun v _ => v = .bool true := by
  match ds, hd with
  | [d0, d1], hd =>
    obtain ⟨i0, i1, _⟩ := hd
    obtain ⟨v0, _, rfl, l0, v1, _, rfl, l1, rfl⟩ := hl
    obtain ⟨t, rfl, wt⟩ := lies_int (k := 7) Try.underlying5 i0 l0
    have one : ∀ d : DataW H, IsD Try.prog 7 74 d → ∀ c, LiesC Try.prog m 74 d c → ∃ x : Act, actR m x c ∧ x.ok := by
      intro d hi c hc
      obtain ⟨ps, rfl, hp⟩ := liesC_struct (k := 6) Try.underlying74 hi hc
      obtain ⟨p0, pr, c1, c2, rfl, rfl, i1, l1, hp⟩ := partsC_cons hp
      obtain ⟨p1, pr, c3, c4, rfl, rfl, i2, l2, hp⟩ := partsC_cons hp
      obtain ⟨p2, pr, c5, c6, rfl, rfl, i3, l3, hp⟩ := partsC_cons hp
      obtain ⟨p3, pr, c7, c8, rfl, rfl, i4, l4, hp⟩ := partsC_cons hp
      obtain ⟨p4, pr, c9, c10, rfl, rfl, i5, l5, hp⟩ := partsC_cons hp
      obtain ⟨p5, pr, c11, c12, rfl, rfl, i6, l6, hp⟩ := partsC_cons hp
      obtain ⟨rfl, rfl⟩ := partsC_nil hp
      obtain ⟨x0, rfl, w0⟩ := liesC_int (k := 5) Try.underlying5 i1 l1
      obtain ⟨x1, rfl, w1⟩ := liesC_int (k := 5) Try.underlying5 i2 l2
      obtain ⟨x2, rfl, w2⟩ := liesC_int (k := 5) Try.underlying5 i3 l3
      obtain ⟨x3, rfl, w3⟩ := liesC_int (k := 5) Try.underlying5 i4 l4
      obtain ⟨x4, rfl, w4⟩ := liesC_int (k := 5) Try.underlying22 i5 l5
      obtain ⟨qs, rfl, hq⟩ := liesC_struct (k := 5) Try.underlying49 i6 l6
      obtain ⟨q0, qr, e1, e2, rfl, rfl, j1, k1, hq⟩ := partsC_cons hq
      obtain ⟨q1, qr, e3, e4, rfl, rfl, j2, k2, hq⟩ := partsC_cons hq
      obtain ⟨q2, qr, e5, e6, rfl, rfl, j3, k3, hq⟩ := partsC_cons hq
      obtain ⟨rfl, rfl⟩ := partsC_nil hq
      obtain ⟨y0, rfl, u0⟩ := liesC_int (k := 4) Try.underlying22 j1 k1
      obtain ⟨y1, rfl, u1⟩ := liesC_int (k := 4) Try.underlying22 j2 k2
      obtain ⟨va, zs, rfl, _, _, hs⟩ := liesC_nums (k := 3) Try.underlying23 Try.underlying5 (by kernel_rfl) j3 k3
      exact ⟨⟨x0, x1, x2, x3, x4, y0, y1, zs⟩, ⟨va, rfl, hs⟩, ⟨wf_u8 w0, wf_u8 w1, wf_u8 w2, wf_u8 w3, wf_u16 u0, wf_u16 u1⟩⟩
    obtain ⟨es, cells, hw, hR, hF⟩ := lies_row (k := 7) (sz := 8) Try.underlying69 (by kernel_rfl) (fun d hi cs hc => by
      obtain ⟨x, hx, _⟩ := one d hi cs hc
      exact actR_size x cs hx) i1 l1
    have : ∀ {es : List (DataW H)} {cells : List Value}, RowsOf (ElD Try.prog m 7 74) es cells → ∃ l : List Act, l.length = es.length ∧ RowsOf (actR m) l cells ∧ ∀ x ∈ l, x.ok := by
      intro es
      induction es with
      | nil => intro cells h; exact ⟨[], rfl, h, by simp⟩
      | cons d r ih =>
        rintro cells ⟨c1, c2, rfl, hx, hr⟩
        obtain ⟨l, h1, h2, h3⟩ := ih hr
        obtain ⟨x, h4, h5⟩ := one d hx.1 _ hx.2
        refine ⟨x :: l, by simp [h1], ⟨c1, c2, rfl, h4, h2⟩, fun y hy => ?_⟩
        rcases List.mem_cons.1 hy with rfl | hy
        · exact h5
        · exact h3 y hy
    obtain ⟨l, h1, h2, h3⟩ := this hR
    exact plays_ret (wf_u8 wt) (by rw [h1]; exact hF) h2 h3
end Go.Proofs.Ytimjcfaciiimmaa
