/- A text of the abstract machine. -/



/- A chair: votes, and what is told of it. -/
import Derived.Test.YtgecmpgpinihhaaAmC16d
import Derived.Test.YtgecmpgpinihhaaAmBun
set_option linter.unusedSimpArgs false
set_option linter.unusedVariables false
set_option maxRecDepth 100000
set_option maxHeartbeats 4000000
namespace Go.Proofs.Ytgecmpgpinihhaa
open Go Go.AM Go.AM.Crc Go.AM.Wire
theorem fxC16f : type_of% (And.intro (And.intro (And.intro (And.intro (And.intro (And.intro (And.intro @Try.underlying3 @Try.underlying4) (And.intro @Try.underlying5 @Try.underlying9)) (And.intro (And.intro @Try.underlying30 @Try.underlying33) (And.intro @Try.underlying103 (And.intro @Try.underlying78 @Try.underlying22)))) (And.intro (And.intro (And.intro @Try.underlying26 @Try.underlying28) (And.intro @Try.underlying41 @Try.underlying43)) (And.intro (And.intro @Try.underlying45 @Try.underlying24) (And.intro @Try.underlying39 (And.intro @Try.underlying23 @Try.underlying34))))) (And.intro (And.intro (And.intro (And.intro @Try.underlying37 @Try.underlying49) (And.intro @Try.underlying51 @Try.underlying57)) (And.intro (And.intro @Try.underlying73 @Try.underlying76) (And.intro @ts3 (And.intro @ts4 @ts5)))) (And.intro (And.intro (And.intro @ts9 @ts30) (And.intro @ts33 @ts103)) (And.intro (And.intro @ts78 @ts22) (And.intro @ts26 (And.intro @ts28 @ts41)))))) (And.intro (And.intro (And.intro (And.intro (And.intro @ts43 @ts45) (And.intro @ts24 @ts39)) (And.intro (And.intro @ts23 @ts34) (And.intro @ts37 (And.intro @ts49 @ts51)))) (And.intro (And.intro (And.intro @ts57 @ts73) (And.intro @ts76 @tz3)) (And.intro (And.intro @tz4 @tz5) (And.intro @tz9 (And.intro @tz30 @tz33))))) (And.intro (And.intro (And.intro (And.intro @tz103 @tz78) (And.intro @tz22 @tz26)) (And.intro (And.intro @tz28 @tz41) (And.intro @tz43 (And.intro @tz45 @tz24)))) (And.intro (And.intro (And.intro @tz39 @tz23) (And.intro @tz34 (And.intro @tz37 @tz49))) (And.intro (And.intro @tz51 @tz57) (And.intro @tz73 (And.intro @tz76 @tb3))))))) (And.intro (And.intro (And.intro (And.intro (And.intro (And.intro @tb4 @tb5) (And.intro @tb9 @tb30)) (And.intro (And.intro @tb33 @tb103) (And.intro @tb78 (And.intro @tb22 @tb26)))) (And.intro (And.intro (And.intro @tb28 @tb41) (And.intro @tb43 @tb45)) (And.intro (And.intro @tb24 @tb39) (And.intro @tb23 (And.intro @tb34 @tb37))))) (And.intro (And.intro (And.intro (And.intro @tb49 @tb51) (And.intro @tb57 @tb73)) (And.intro (And.intro @tb76 @fr7) (And.intro @fr8 (And.intro @fr9 @fr10)))) (And.intro (And.intro (And.intro @fr11 @fr12) (And.intro @fr15 @fr16)) (And.intro (And.intro @fr19 @fr21) (And.intro @fr22 (And.intro @fr23 @bz33)))))) (And.intro (And.intro (And.intro (And.intro (And.intro @al33 @fa33_0) (And.intro @fa33_1 @bz28)) (And.intro (And.intro @bz26 @bz43) (And.intro @bz45 (And.intro @al43 @al45)))) (And.intro (And.intro (And.intro @fa45_0 @fa45_1) (And.intro @fa45_2 @fa43_0)) (And.intro (And.intro @fa43_1 @fa43_2) (And.intro @fa28_0 (And.intro @fa28_1 @fa28_2))))) (And.intro (And.intro (And.intro (And.intro @fa26_0 @fa26_1) (And.intro @fa26_2 @fa26_3)) (And.intro (And.intro @bz37 @bz76) (And.intro @al37 (And.intro @fa37_0 @fa37_1)))) (And.intro (And.intro (And.intro @fa76_0 @fa76_1) (And.intro @fa76_2 (And.intro @fa76_3 @fa76_4))) (And.intro (And.intro @fa76_5 @fa76_6) (And.intro @fa76_7 (And.intro @fa76_8 @oneOf_two)))))))) := (And.intro (And.intro (And.intro (And.intro (And.intro (And.intro (And.intro @Try.underlying3 @Try.underlying4) (And.intro @Try.underlying5 @Try.underlying9)) (And.intro (And.intro @Try.underlying30 @Try.underlying33) (And.intro @Try.underlying103 (And.intro @Try.underlying78 @Try.underlying22)))) (And.intro (And.intro (And.intro @Try.underlying26 @Try.underlying28) (And.intro @Try.underlying41 @Try.underlying43)) (And.intro (And.intro @Try.underlying45 @Try.underlying24) (And.intro @Try.underlying39 (And.intro @Try.underlying23 @Try.underlying34))))) (And.intro (And.intro (And.intro (And.intro @Try.underlying37 @Try.underlying49) (And.intro @Try.underlying51 @Try.underlying57)) (And.intro (And.intro @Try.underlying73 @Try.underlying76) (And.intro @ts3 (And.intro @ts4 @ts5)))) (And.intro (And.intro (And.intro @ts9 @ts30) (And.intro @ts33 @ts103)) (And.intro (And.intro @ts78 @ts22) (And.intro @ts26 (And.intro @ts28 @ts41)))))) (And.intro (And.intro (And.intro (And.intro (And.intro @ts43 @ts45) (And.intro @ts24 @ts39)) (And.intro (And.intro @ts23 @ts34) (And.intro @ts37 (And.intro @ts49 @ts51)))) (And.intro (And.intro (And.intro @ts57 @ts73) (And.intro @ts76 @tz3)) (And.intro (And.intro @tz4 @tz5) (And.intro @tz9 (And.intro @tz30 @tz33))))) (And.intro (And.intro (And.intro (And.intro @tz103 @tz78) (And.intro @tz22 @tz26)) (And.intro (And.intro @tz28 @tz41) (And.intro @tz43 (And.intro @tz45 @tz24)))) (And.intro (And.intro (And.intro @tz39 @tz23) (And.intro @tz34 (And.intro @tz37 @tz49))) (And.intro (And.intro @tz51 @tz57) (And.intro @tz73 (And.intro @tz76 @tb3))))))) (And.intro (And.intro (And.intro (And.intro (And.intro (And.intro @tb4 @tb5) (And.intro @tb9 @tb30)) (And.intro (And.intro @tb33 @tb103) (And.intro @tb78 (And.intro @tb22 @tb26)))) (And.intro (And.intro (And.intro @tb28 @tb41) (And.intro @tb43 @tb45)) (And.intro (And.intro @tb24 @tb39) (And.intro @tb23 (And.intro @tb34 @tb37))))) (And.intro (And.intro (And.intro (And.intro @tb49 @tb51) (And.intro @tb57 @tb73)) (And.intro (And.intro @tb76 @fr7) (And.intro @fr8 (And.intro @fr9 @fr10)))) (And.intro (And.intro (And.intro @fr11 @fr12) (And.intro @fr15 @fr16)) (And.intro (And.intro @fr19 @fr21) (And.intro @fr22 (And.intro @fr23 @bz33)))))) (And.intro (And.intro (And.intro (And.intro (And.intro @al33 @fa33_0) (And.intro @fa33_1 @bz28)) (And.intro (And.intro @bz26 @bz43) (And.intro @bz45 (And.intro @al43 @al45)))) (And.intro (And.intro (And.intro @fa45_0 @fa45_1) (And.intro @fa45_2 @fa43_0)) (And.intro (And.intro @fa43_1 @fa43_2) (And.intro @fa28_0 (And.intro @fa28_1 @fa28_2))))) (And.intro (And.intro (And.intro (And.intro @fa26_0 @fa26_1) (And.intro @fa26_2 @fa26_3)) (And.intro (And.intro @bz37 @bz76) (And.intro @al37 (And.intro @fa37_0 @fa37_1)))) (And.intro (And.intro (And.intro @fa76_0 @fa76_1) (And.intro @fa76_2 (And.intro @fa76_3 @fa76_4))) (And.intro (And.intro @fa76_5 @fa76_6) (And.intro @fa76_7 (And.intro @fa76_8 @oneOf_two))))))))
theorem acc_no {m : Mem} {i r : Nat} {C : Ch} {x br bn : Int} (H : ChAt m i r C) (hno : C.ph = 2 → br = C.br → bn = C.bn → x ∈ C.mem → x ∈ C.heard) {K : Value → Mem → Prop} (hK : ∀ m', Ext m m' → K (.bool false) m') : Ret Try.prog 11 [.pointer (some ⟨i, 0, none⟩), .int .i64 x, bal br bn] m K := by
  obtain ⟨vm, oa, om, fa, fm, hv, ea, em, H⟩ := H
  refine ret_wp [] Try.func11 rfl (by decide) (by kernel_rfl) ?_
  have li := H.li
  simp only [Nat.reduceAdd, reduceIte, Nat.reduceEqDiff, reduceCtorEq, opLen, Int.reduceLT, Int.reduceEq, opConvert, opIndexAddr, Nat.reduceLT, undef, Nat.reduceLeDiff, Array.toList, bin_cneq, bin_cne, bin_bne, bin_beq, bld76n, bld37z, wk4, wk5, wk0, fxC16f]
  obtain ⟨m0, hm0⟩ : ∃ m0, m0 = m.new (.cells [.int .i64 br, .int .i64 bn] 37 true) := ⟨_, rfl⟩
  have x0 : Ext m m0 := by rw [hm0]; exact Ext.new _ _
  have nx0 : m0.next = m.next + 1 := by rw [hm0]; rfl
  have g0 : m0.get m.next = some (.cells [.int .i64 br, .int .i64 bn] 37 true) := by rw [hm0, new_get]
  have H0 := H.ext x0
  have gi := H0.gi
  rw [← hm0]
  clear hm0
  have lph := ld2 gi
  have lbal := ld3 gi
  have lvw := ld0 gi
  have l00 : opLoad Try.prog 37 (.pointer (some ⟨m.next, 0, none⟩)) m0 = some (bal br bn) := load_agg (P := Try.prog) (t := 37) (sz := 2) (off := 0) g0 (by simp only [aggOf, Try.underlying37]) ts37 (by simp)
  by_cases c1 : C.ph = 2
  · by_cases c2 : br = C.br ∧ bn = C.bn
    · have d2 := decide_eq_true c2
      simp only [Nat.reduceAdd, reduceIte, Nat.reduceEqDiff, reduceCtorEq, opLen, Int.reduceLT, Int.reduceEq, opConvert, opIndexAddr, Nat.reduceLT, undef, Nat.reduceLeDiff, Array.toList, bin_cneq, bin_cne, bin_bne, bin_beq, bld76n, bld37z, wk4, wk5, wk0, fxC16f, lph, lbal, l00, lvw, c1, d2]
      refine has_ret H0.fv.rd (by have := H0.hm; omega) fun m1 x1 => ?_
      by_cases c3 : x ∈ C.mem
      · have d3 := decide_eq_true c3
        have d4 := decide_eq_true (hno c1 c2.1 c2.2 c3)
        simp only [Nat.reduceAdd, reduceIte, Nat.reduceEqDiff, reduceCtorEq, opLen, Int.reduceLT, Int.reduceEq, opConvert, opIndexAddr, Nat.reduceLT, undef, Nat.reduceLeDiff, Array.toList, bin_cneq, bin_cne, bin_bne, bin_beq, bld76n, bld37z, wk4, wk5, wk0, fxC16f, d3]
        refine phas_ret ⟨_, _, _, _, _, _, _, _, H0.ext x1⟩ ?_
        simp only [Nat.reduceAdd, reduceIte, Nat.reduceEqDiff, reduceCtorEq, opLen, Int.reduceLT, Int.reduceEq, opConvert, opIndexAddr, opLoad, Nat.reduceLT, undef, Nat.reduceLeDiff, Array.toList, bin_cneq, bin_cne, bin_bne, bin_beq, bld76n, bld37z, wk4, wk5, wk0, fxC16f, d4]
        exact hK _ (x0.trans x1)
      · have d3 := decide_eq_false c3
        simp only [Nat.reduceAdd, reduceIte, Nat.reduceEqDiff, reduceCtorEq, opLen, Int.reduceLT, Int.reduceEq, opConvert, opIndexAddr, Nat.reduceLT, undef, Nat.reduceLeDiff, Array.toList, bin_cneq, bin_cne, bin_bne, bin_beq, bld76n, bld37z, wk4, wk5, wk0, fxC16f, d3]
        exact hK _ (x0.trans x1)
    · have d2 := decide_eq_false c2
      simp only [Nat.reduceAdd, reduceIte, Nat.reduceEqDiff, reduceCtorEq, opLen, Int.reduceLT, Int.reduceEq, opConvert, opIndexAddr, Nat.reduceLT, undef, Nat.reduceLeDiff, Array.toList, bin_cneq, bin_cne, bin_bne, bin_beq, bld76n, bld37z, wk4, wk5, wk0, fxC16f, lph, lbal, l00, c1, d2]
      exact hK _ x0
  · simp only [Nat.reduceAdd, reduceIte, Nat.reduceEqDiff, reduceCtorEq, opLen, Int.reduceLT, Int.reduceEq, opConvert, opIndexAddr, Nat.reduceLT, undef, Nat.reduceLeDiff, Array.toList, bin_cneq, bin_cne, bin_bne, bin_beq, bld76n, bld37z, wk4, wk5, wk0, fxC16f, lph, c1]
    exact hK _ x0
def Ch.acc (C : Ch) : Ch := if C.most = true then { C with ph := 3 } else C
theorem acc_yes {m : Mem} {i r : Nat} {C : Ch} {x br bn : Int} (H : ChAt m i r C) (hl : C.heard.length < 1000000) (c1 : C.ph = 2) (c2 : br = C.br ∧ bn = C.bn) (c3 : x ∈ C.mem) (c4 : x ∉ C.heard) {K : Value → Mem → Prop}
    (hK : ∀ m' r', ChAt m' i r' (C.hear x).acc → Pz m m' → (∀ j, j < m.next → j ≠ i → j ≠ r → m'.get j = m.get j) → m.next < r' → K (.bool (C.hear x).most) m') : Ret Try.prog 11 [.pointer (some ⟨i, 0, none⟩), .int .i64 x, bal br bn] m K := by
  obtain ⟨vm, oa, om, fa, fm, hv, ea, em, H⟩ := H
  refine ret_wp [] Try.func11 rfl (by decide) (by kernel_rfl) ?_
  have li := H.li
  simp only [Nat.reduceAdd, reduceIte, Nat.reduceEqDiff, reduceCtorEq, opLen, Int.reduceLT, Int.reduceEq, opConvert, opIndexAddr, Nat.reduceLT, undef, Nat.reduceLeDiff, Array.toList, bin_cneq, bin_cne, bin_bne, bin_beq, bld76n, bld37z, wk4, wk5, wk0, fxC16f]
  obtain ⟨m0, hm0⟩ : ∃ m0, m0 = m.new (.cells [.int .i64 br, .int .i64 bn] 37 true) := ⟨_, rfl⟩
  have x0 : Ext m m0 := by rw [hm0]; exact Ext.new _ _
  have nx0 : m0.next = m.next + 1 := by rw [hm0]; rfl
  have g0 : m0.get m.next = some (.cells [.int .i64 br, .int .i64 bn] 37 true) := by rw [hm0, new_get]
  have H0 := H.ext x0
  have gi := H0.gi
  rw [← hm0]
  clear hm0
  have lph := ld2 gi
  have lbal := ld3 gi
  have lvw := ld0 gi
  have l00 : opLoad Try.prog 37 (.pointer (some ⟨m.next, 0, none⟩)) m0 = some (bal br bn) := load_agg (P := Try.prog) (t := 37) (sz := 2) (off := 0) g0 (by simp only [aggOf, Try.underlying37]) ts37 (by simp)
  have d2 := decide_eq_true c2
  simp only [Nat.reduceAdd, reduceIte, Nat.reduceEqDiff, reduceCtorEq, opLen, Int.reduceLT, Int.reduceEq, opConvert, opIndexAddr, Nat.reduceLT, undef, Nat.reduceLeDiff, Array.toList, bin_cneq, bin_cne, bin_bne, bin_beq, bld76n, bld37z, wk4, wk5, wk0, fxC16f, lph, lbal, l00, lvw, c1, d2]
  refine has_ret H0.fv.rd (by have := H0.hm; omega) fun m1 x1 => ?_
  have d3 := decide_eq_true c3
  have d4 := decide_eq_false c4
  simp only [Nat.reduceAdd, reduceIte, Nat.reduceEqDiff, reduceCtorEq, opLen, Int.reduceLT, Int.reduceEq, opConvert, opIndexAddr, Nat.reduceLT, undef, Nat.reduceLeDiff, Array.toList, bin_cneq, bin_cne, bin_bne, bin_beq, bld76n, bld37z, wk4, wk5, wk0, fxC16f, d3]
  have H1 := H0.ext x1
  refine phas_ret ⟨_, _, _, _, _, _, _, _, H1⟩ ?_
  obtain ⟨qa, qz, rfl⟩ := H1.oh.is
  have lhv := ld20 H1.gi
  obtain ⟨a', q', m2, r2, p1, o2, lr2, lr2', zz2, f2', g2'⟩ := hear_push (x := x) H1 hl
  have sh := st20 (w := .slice a' (C.heard.length + 1) q') rfl g2'
  have x01 := x0.trans x1
  have nx1 := x1.1
  obtain ⟨m3, hm3⟩ : ∃ m3, m3 = m2.set i (.cells (chC C vm oa om fa fm (.slice a' (C.heard.length + 1) q') ea em) 76 true) := ⟨_, rfl⟩
  have g3 : m3.get i = some (.cells (chC C vm oa om fa fm (.slice a' (C.heard.length + 1) q') ea em) 76 true) := by rw [hm3]; exact set_get _ _ _
  have z23 : Pz m2 m3 := by rw [hm3]; exact Pz.set g2' _
  have k3 : ∀ j, j ≠ i → m3.get j = m2.get j := fun j hj => by rw [hm3, set_get_ne _ hj]
  have n3 : m3.next = m2.next := by rw [hm3]; rfl
  rw [← hm3] at sh
  clear hm3
  have z13 := zz2.trans z23
  have li3 : i < m3.next := by have := z13.1; have := x01.1; omega
  have nr : r2 ≠ i := by have := x01.1; omega
  have H3 : ChIs m3 i r2 (C.hear x) vm oa om fa fm (.slice a' (C.heard.length + 1) q') ea em := ⟨g3, li3, H1.fv.pz z13, H1.fo.pz z13, H1.go.pz z13, H1.ff.pz z13, H1.gf.pz z13, H1.fe.pz z13, H1.ge.pz z13, by
    have hlen : (C.hear x).heard.length = C.heard.length + 1 := by simp [Ch.hear]
    rw [hlen]
    exact o2.keep (by omega) (fun _ => k3 _ nr), H1.hm, by simp only [Ch.hear, List.length_append, List.length_cons, List.length_nil]; omega, by omega⟩
  have Z3 : Pz m m3 := x01.pz.trans z13
  have fr3 : ∀ j, j < m.next → j ≠ i → j ≠ r → m3.get j = m.get j := fun j hj h1 h2 => by rw [k3 j h1, f2' j (by have := x01.1; omega) h2, x01.2 j hj]
  obtain ⟨D, hD⟩ : ∃ D, D = C.hear x := ⟨_, rfl⟩
  rw [← hD] at hK H3
  have lvw3 := ld0 H3.gi
  have lhv3 := ld20 H3.gi
  obtain ⟨hV, hhV⟩ : ∃ hV, hV = Value.slice a' (C.heard.length + 1) q' := ⟨_, rfl⟩
  simp only [evOp, evParts, okVal, ev1, evs, evOpt, envOf, List.lookup_nil, List.size_toArray, List.length_cons, List.length_nil, List.range, List.range.loop, Nat.zero_add, Nat.reduceAdd, Bool.not_false, Bool.not_true, Bool.true_or, if_true, if_false, reduceIte, Nat.reduceEqDiff, reduceCtorEq, List.getElem?_toArray, List.getElem?_cons_zero, List.getElem?_cons_succ, guardOf, constOk, constCell, evBuiltin, opLen, List.head?_cons, foldV, min2V, max2V, Int.reduceLT, Int.reduceEq, Kend, resOf, Bool.false_eq_true, Bool.true_eq_false, IntKind.signed, IntKind.max, opConvert, opIndexAddr, aggOf, Option.some.injEq, Value.bool.injEq, exists_eq_left', true_and, forall_const, decide_eq_true_eq, decide_eq_false_iff_not, Int.natCast_nonneg, and_self, Int.toNat_natCast, Nat.mul_one, List.append_nil, beq_self_eq_true, Nat.lt_irrefl, Nat.zero_lt_succ, Nat.reduceLT, Option.bind_some, undef, opBox, Value.cells, setCells, Nat.reduceLeDiff, Array.toList, bin_cneq, bin_cne, bin_bne, bin_beq, bld76n, bld37z, wk5, wk0, fxC16f, d4, lhv, one_intP, p1, sh, lvw3, lhv3]
  rw [← hhV] at H3
  refine most_ret H3.fv.rd (by rw [← hhV]; exact H3.oh.rd) (by have := H3.hm; omega) (by have := H3.hh; omega) fun m5 x5 => ?_
  have H5 := H3.ext x5
  have F5 : ∀ j, j < m.next → j ≠ i → j ≠ r → m5.get j = m.get j := fun j hj h1 h2 => (x5.2 j (by have := Z3.1; omega)).trans (fr3 j hj h1 h2)
  have R2 : m.next < r2 := by have := x01.1; omega
  cases hmo : decide (D.mem.length < 2 * manyIn D.mem D.heard) with
  | false =>
    have e1 : D.most = false := hmo
    have e2 : D.acc = D := by rw [Ch.acc, e1, if_neg (by decide)]
    simp only [Nat.reduceAdd, reduceIte, Nat.reduceEqDiff, reduceCtorEq, opLen, Int.reduceLT, Int.reduceEq, opConvert, opIndexAddr, opLoad, Nat.reduceLT, undef, Nat.reduceLeDiff, Array.toList, bin_cneq, bin_cne, bin_bne, bin_beq, bld76n, bld37z, wk4, wk5, wk0, fxC16f, hmo]
    rw [e1] at hK
    exact hK _ r2 (by rw [e2]; exact ⟨_, _, _, _, _, _, _, _, H5⟩) (Z3.trans x5.pz) F5 R2
  | true =>
    have e1 : D.most = true := hmo
    have e2 : D.acc = { D with ph := 3 } := by rw [Ch.acc, e1, if_pos rfl]
    have s2 := st2 (p := 3) H5.gi
    rw [e1, e2] at hK
    simp only [evOp, evParts, okVal, ev1, evs, evOpt, envOf, List.lookup_nil, List.size_toArray, List.length_cons, List.length_nil, List.range, List.range.loop, Nat.zero_add, Nat.reduceAdd, Bool.not_false, Bool.not_true, Bool.true_or, if_true, if_false, reduceIte, Nat.reduceEqDiff, reduceCtorEq, List.getElem?_toArray, List.getElem?_cons_zero, List.getElem?_cons_succ, guardOf, constOk, constCell, evBuiltin, opLen, List.head?_cons, foldV, min2V, max2V, Int.reduceLT, Int.reduceEq, Kend, resOf, Bool.false_eq_true, Bool.true_eq_false, IntKind.signed, IntKind.max, opConvert, opIndexAddr, aggOf, Option.some.injEq, Value.bool.injEq, exists_eq_left', true_and, forall_const, decide_eq_true_eq, decide_eq_false_iff_not, Int.natCast_nonneg, and_self, Int.toNat_natCast, Nat.mul_one, List.append_nil, beq_self_eq_true, Nat.lt_irrefl, Nat.zero_lt_succ, Nat.reduceLT, Option.bind_some, undef, opBox, Value.cells, setCells, Nat.reduceLeDiff, Array.toList, bin_cneq, bin_cne, bin_bne, bin_beq, bld76n, bld37z, wk5, wk0, fxC16f, hmo, s2]
    have Z6 : Pz m5 (m5.set i (.cells (chC { D with ph := 3 } vm oa om fa fm hV ea em) 76 true)) := Pz.set H5.gi _
    have nr5 : r2 ≠ i := nr
    exact hK _ r2 ⟨_, _, _, _, _, _, _, _, set_get _ _ _, H5.li, H5.fv.pz Z6, H5.fo.pz Z6, H5.go.pz Z6, H5.ff.pz Z6, H5.gf.pz Z6, H5.fe.pz Z6, H5.ge.pz Z6, H5.oh.keep Z6.1 (fun _ => set_get_ne _ nr5), H5.hm, H5.hh, H5.lr⟩ ((Z3.trans x5.pz).trans Z6) (fun j hj h1 h2 => by rw [set_get_ne _ h1, F5 j hj h1 h2]) R2
theorem phase_ret {m : Mem} {i r : Nat} {C : Ch} (H : ChAt m i r C) {K : Value → Mem → Prop} (hK : K (.int .u8 C.ph) m) : Ret Try.prog 19 [.pointer (some ⟨i, 0, none⟩)] m K := by
  obtain ⟨vm, oa, om, fa, fm, hv, ea, em, H⟩ := H
  refine ret_wp [] Try.func19 rfl (by decide) (by kernel_rfl) ?_
  have l2 := ld2 H.gi
  simp only [Nat.reduceAdd, reduceIte, Nat.reduceEqDiff, reduceCtorEq, opLen, Int.reduceLT, Int.reduceEq, opConvert, opIndexAddr, Nat.reduceLT, undef, Nat.reduceLeDiff, Array.toList, bin_cneq, bin_cne, bin_bne, bin_beq, bld76n, bld37z, wk4, wk5, wk0, fxC16f, l2]
  exact hK
theorem ballot_ret {m : Mem} {i r : Nat} {C : Ch} (H : ChAt m i r C) {K : Value → Mem → Prop} (hK : ∀ m', Ext m m' → K (bal C.br C.bn) m') : Ret Try.prog 16 [.pointer (some ⟨i, 0, none⟩)] m K := by
  obtain ⟨vm, oa, om, fa, fm, hv, ea, em, H⟩ := H
  refine ret_wp [] Try.func16 rfl (by decide) (by kernel_rfl) ?_
  have l3 := ld3 (H.ext (Ext.new m (.cells [.int .i64 0, .int .i64 0] 37 true))).gi
  simp only [Nat.reduceAdd, reduceIte, Nat.reduceEqDiff, reduceCtorEq, opLen, Int.reduceLT, Int.reduceEq, opConvert, opIndexAddr, Nat.reduceLT, undef, Nat.reduceLeDiff, Array.toList, bin_cneq, bin_cne, bin_bne, bin_beq, bld76n, bld37z, wk4, wk5, wk0, fxC16f, l3]
  have lr : opLoad Try.prog 37 (.pointer (some ⟨m.next, 0, none⟩)) ((m.new (.cells [.int .i64 0, .int .i64 0] 37 true)).set m.next (.cells [.int .i64 C.br, .int .i64 C.bn] 37 true)) = some (bal C.br C.bn) := load_agg (P := Try.prog) (t := 37) (sz := 2) (off := 0) (set_get _ _ _) (by simp only [aggOf, Try.underlying37]) ts37 (by simp)
  simp only [Nat.reduceAdd, reduceIte, Nat.reduceEqDiff, reduceCtorEq, opLen, Int.reduceLT, Int.reduceEq, opConvert, opIndexAddr, Nat.reduceLT, undef, Nat.reduceLeDiff, Array.toList, bin_cneq, bin_cne, bin_bne, bin_beq, bld76n, bld37z, wk4, wk5, wk0, fxC16f, lr]
  exact hK _ ((Ext.new _ _).set (Nat.le_refl _))
theorem centry_ret {m : Mem} {i r : Nat} {C : Ch} (H : ChAt m i r C) (hp : 2 ≤ C.ph) {K : Value → Mem → Prop} (hK : ∀ m' v, Ext m m' → EnF m' v C.ent → K (.tuple #[v, .bool true]) m') : Ret Try.prog 12 [.pointer (some ⟨i, 0, none⟩)] m K := by
  obtain ⟨vm, oa, om, fa, fm, hv, ea, em, H⟩ := H
  refine ret_wp [] Try.func12 rfl (by decide) (by kernel_rfl) ?_
  have H1 := H.ext (Ext.new m (.cells [.int .u8 0, .int .u16 0, .int .u16 0, .int .i64 0, .slice none 0 0, .slice none 0 0] 45 true))
  have l2 := ld2 H1.gi
  have l21 := ld21 H1.gi
  obtain ⟨a1, z1, rfl⟩ := H.fe.is
  obtain ⟨a2, z2, rfl⟩ := H.ge.is
  have np : ¬ C.ph < 2 := by omega
  simp only [Nat.reduceAdd, reduceIte, Nat.reduceEqDiff, reduceCtorEq, opLen, Int.reduceLT, Int.reduceEq, opConvert, opIndexAddr, Nat.reduceLT, undef, Nat.reduceLeDiff, Array.toList, bin_cneq, bin_cne, bin_bne, bin_beq, bld76n, bld37z, wk4, wk5, wk0, fxC16f, l2, l21, np]
  have lr : opLoad Try.prog 45 (.pointer (some ⟨m.next, 0, none⟩)) ((m.new (.cells [.int .u8 0, .int .u16 0, .int .u16 0, .int .i64 0, .slice none 0 0, .slice none 0 0] 45 true)).set m.next (.cells [.int .u8 C.ent.kind, .int .u16 C.ent.tr, .int .u16 C.ent.nu, .int .i64 C.ent.pc, .slice a1 C.ent.args.length z1, .slice a2 C.ent.mem.length z2] 45 true)) = some (entW C.ent.kind C.ent.tr C.ent.nu C.ent.pc (.slice a1 C.ent.args.length z1) (.slice a2 C.ent.mem.length z2)) := load_agg (P := Try.prog) (t := 45) (sz := 6) (off := 0) (set_get _ _ _) (by simp only [aggOf, Try.underlying45]) ts45 (by simp)
  simp only [Nat.reduceAdd, reduceIte, Nat.reduceEqDiff, reduceCtorEq, opLen, Int.reduceLT, Int.reduceEq, opConvert, opIndexAddr, Nat.reduceLT, undef, Nat.reduceLeDiff, Array.toList, bin_cneq, bin_cne, bin_bne, bin_beq, bld76n, bld37z, wk4, wk5, wk0, fxC16f, lr]
  have x : Ext m ((m.new (.cells [.int .u8 0, .int .u16 0, .int .u16 0, .int .i64 0, .slice none 0 0, .slice none 0 0] 45 true)).set m.next (.cells [.int .u8 C.ent.kind, .int .u16 C.ent.tr, .int .u16 C.ent.nu, .int .i64 C.ent.pc, .slice a1 C.ent.args.length z1, .slice a2 C.ent.mem.length z2] 45 true)) := (Ext.new _ _).set (Nat.le_refl _)
  exact hK _ _ x ⟨_, _, rfl, H.fe.pz x.pz, H.ge.pz x.pz⟩
end Go.Proofs.Ytgecmpgpinihhaa
